/-
  Contracts: ChangedOf; the laws BootAdds, BootRemoves, BootReserves, BootFrees.
-/
import Derived.Test.YtfdmgflboibdoaaB7
set_option linter.unusedVariables false
namespace Go.Proofs.Ytfdmgflboibdoaa
open Go.RowKit

theorem changedC_ans (A : Option Addr) (n c : Nat) (l : List Region) (r : Region) (q : Bool) (z : Int) (b5 b7 b11 : Nat) (w : World) (h5 : Blk w b5 54 (encR r)) (h7 : Blk w b7 4 [.bool q]) (h11 : Blk w b11 46 [.slice A n c]) (hl : Sl w 2 encR A n l) (hlo : ∀ r ∈ l, r.ok) (hr : r.ok)
    (hn : n ≤ 9223372036854775807) (hz : 0 ≤ z) : Ans Try.prog 93 ([.int .i64 z] ++ [.pointer (some ⟨b5, 0, none⟩), .pointer (some ⟨b7, 0, none⟩), .pointer (some ⟨b11, 0, none⟩)]) w fun u _ => u = .bool (withReg l r q z.toNat) := by
  refine ans_of Try.func93 rfl Try.ntmps93 rfl ?_
  have hw := Ext.refl w
  have h1 := hr.1
  have h2 := hr.2.1
  have h3 := hr.2.2.2
  have hzz : ((z.toNat : Nat) : Int) = z := Int.toNat_of_nonneg hz
  have e7 : w.cell? ⟨b7, 0, none⟩ = some (.bool q) := h7.cell (i := 0) rfl
  have e11 : w.cell? ⟨b11, 0, none⟩ = some (.slice A n c) := h11.cell (i := 0) rfl
  by_cases hin : r.From ≤ z ∧ z < r.From + r.Size
  · have e : withReg l r q z.toNat = q := by unfold withReg; rw [hzz, if_pos hin]
    rw [e]
    repeat' (first
      | (show CW _ _ _ _ _ _; first | refine CW.seq ?_ | refine CW.region ?_ | refine CW.block ?_ | refine CW.condtr rfl (by with_reducible rfl) ?_ | refine CW.condfr rfl (by with_reducible rfl) ?_ | refine CW.condd_t rfl (by omega) ?_ | refine CW.condd_f rfl (by omega) ?_ | refine CW.condn_t rfl (by omega) ?_ | refine CW.condn_f rfl (by omega) ?_ | refine CW.condd rfl (fun h => ?_) (fun h => ?_) | refine CW.condn rfl (fun h => ?_) (fun h => ?_) | refine CW.condt rfl ?_ | refine CW.condf rfl ?_ | refine CW.cond rfl (fun h => ?_) (fun h => ?_) | refine CW.skip ?_ | refine CW.ret ?_ | refine CW.exit ?_)
      | (show Post _ _ _ _ _; first | refine Post.seq ?_ | refine Post.seq_ret ?_ | refine Post.seq_exit ?_ | refine Post.hit ?_ | refine Post.pass rfl ?_ | refine Post.blk ?_ | refine Post.blk_ret ?_ | refine Post.again_exit ?_ | refine Post.again_ret ?_ | refine Post.np ?_)
      | refine SW.nil ?_
      | (show SW _ _ _ _ (⟨_, _, _, _, _, some _⟩ :: _) _ _; first | refine SW.want_t rfl rfl (by with_reducible rfl) ?_ | refine SW.want_f rfl rfl (by with_reducible rfl) ?_ | refine SW.skip_t rfl rfl (by with_reducible rfl) rfl ?_ | refine SW.skip_f rfl rfl (by with_reducible rfl) rfl ?_ | refine SW.skip_u rfl rfl (by with_reducible rfl) rfl ?_ | refine SW.splitd_t rfl rfl rfl (by omega) ?_ | refine SW.splitd_f rfl rfl rfl (by omega) ?_ | refine SW.splitn_t rfl rfl rfl (by omega) ?_ | refine SW.splitn_f rfl rfl rfl (by omega) ?_ | refine SW.splitd rfl rfl rfl (fun h => ?_) (fun h => ?_) | refine SW.splitn rfl rfl rfl (fun h => ?_) (fun h => ?_) | refine SW.want rfl rfl ?_ | refine SW.skip rfl rfl rfl rfl ?_ | refine SW.skipu rfl rfl rfl ?_ | refine SW.split rfl rfl rfl (fun h => ?_) (fun h => ?_))
      | refine SW.pure rfl rfl ?_
      | (show SW _ _ _ _ (⟨_, Op.fieldAddr _ _ _, _, _, _, none⟩ :: _) _ _; refine SW.st (st_field rfl) rfl ?_)
      | (show SW _ _ _ _ (⟨_, Op.nilCheck _, _, _, _, none⟩ :: _) _ _; refine SW.st (st_nilCheck rfl) rfl ?_)
      | (show SW _ _ _ _ (⟨_, Op.build _ _, _, _, _, none⟩ :: _) _ _; refine SW.st (st_build rfl rfl) rfl ?_)
      | (show SW _ _ _ _ (⟨_, Op.binOp _ _ _ _ _, _, _, _, none⟩ :: _) _ _; first | refine SW.st (st_add rfl rfl (by omega) (by omega)) rfl ?_ | refine SW.st (st_sub rfl rfl (by omega) (by omega)) rfl ?_ | refine SW.st (st_mul rfl rfl (by omega) (by omega)) rfl ?_ | refine SW.st (st_quo rfl rfl (by omega) (by omega) (by omega)) rfl ?_ | refine SW.st (st_rem rfl rfl (by omega)) rfl ?_)
      | (show SW _ _ _ _ (⟨_, Op.indexAddr _ _ _, _, _, _, none⟩ :: _) _ _; refine SW.st (st_indexN rfl rfl (by assumption) (by omega)) rfl ?_)
      | (show SW _ _ _ _ (⟨_, Op.call ⟨.builtin .len, _, _⟩, _, _, _, none⟩ :: _) _ _; refine SW.st (st_len rfl) rfl ?_)
      | (show SW _ _ _ _ (⟨_, Op.call ⟨.builtin .cap, _, _⟩, _, _, _, none⟩ :: _) _ _; refine SW.st (st_cap rfl) rfl ?_)
      | (show SW _ _ _ _ (⟨_, Op.load _ _, _, _, _, none⟩ :: _) _ _; first | refine SW.st (st_load rfl (h5.cell rfl)) rfl ?_ | refine SW.st (st_loadx hw rfl (h5.cell rfl)) rfl ?_ | refine SW.st (st_load rfl e7) rfl ?_ | refine SW.st (st_loadx hw rfl e7) rfl ?_ | refine SW.st (st_load rfl e11) rfl ?_ | refine SW.st (st_loadx hw rfl e11) rfl ?_)
      | (show SW _ _ _ _ (⟨_, Op.call ⟨.value (.func _), _, _⟩, _, _, _, none⟩ :: _) _ _; (refine SW.call rfl rfl (In_ans _ _ _ _) ?_; intro v w1 hw1 hv; subst hv; replace hw := Ext.trans hw hw1; clear hw1)))
    all_goals first | exact Post.ret1 rfl rfl ⟨_, rfl, hw, rfl⟩ | (exfalso; omega)
  · have e : withReg l r q z.toNat = inReg l z := by unfold withReg; rw [hzz, if_neg hin]
    rw [e]
    repeat' (first
      | (show CW _ _ _ _ _ _; first | refine CW.seq ?_ | refine CW.region ?_ | refine CW.block ?_ | refine CW.condtr rfl (by with_reducible rfl) ?_ | refine CW.condfr rfl (by with_reducible rfl) ?_ | refine CW.condd_t rfl (by omega) ?_ | refine CW.condd_f rfl (by omega) ?_ | refine CW.condn_t rfl (by omega) ?_ | refine CW.condn_f rfl (by omega) ?_ | refine CW.condd rfl (fun h => ?_) (fun h => ?_) | refine CW.condn rfl (fun h => ?_) (fun h => ?_) | refine CW.condt rfl ?_ | refine CW.condf rfl ?_ | refine CW.cond rfl (fun h => ?_) (fun h => ?_) | refine CW.skip ?_ | refine CW.ret ?_ | refine CW.exit ?_)
      | (show Post _ _ _ _ _; first | refine Post.seq ?_ | refine Post.seq_ret ?_ | refine Post.seq_exit ?_ | refine Post.hit ?_ | refine Post.pass rfl ?_ | refine Post.blk ?_ | refine Post.blk_ret ?_ | refine Post.again_exit ?_ | refine Post.again_ret ?_ | refine Post.np ?_)
      | refine SW.nil ?_
      | (show SW _ _ _ _ (⟨_, _, _, _, _, some _⟩ :: _) _ _; first | refine SW.want_t rfl rfl (by with_reducible rfl) ?_ | refine SW.want_f rfl rfl (by with_reducible rfl) ?_ | refine SW.skip_t rfl rfl (by with_reducible rfl) rfl ?_ | refine SW.skip_f rfl rfl (by with_reducible rfl) rfl ?_ | refine SW.skip_u rfl rfl (by with_reducible rfl) rfl ?_ | refine SW.splitd_t rfl rfl rfl (by omega) ?_ | refine SW.splitd_f rfl rfl rfl (by omega) ?_ | refine SW.splitn_t rfl rfl rfl (by omega) ?_ | refine SW.splitn_f rfl rfl rfl (by omega) ?_ | refine SW.splitd rfl rfl rfl (fun h => ?_) (fun h => ?_) | refine SW.splitn rfl rfl rfl (fun h => ?_) (fun h => ?_) | refine SW.want rfl rfl ?_ | refine SW.skip rfl rfl rfl rfl ?_ | refine SW.skipu rfl rfl rfl ?_ | refine SW.split rfl rfl rfl (fun h => ?_) (fun h => ?_))
      | refine SW.pure rfl rfl ?_
      | (show SW _ _ _ _ (⟨_, Op.fieldAddr _ _ _, _, _, _, none⟩ :: _) _ _; refine SW.st (st_field rfl) rfl ?_)
      | (show SW _ _ _ _ (⟨_, Op.nilCheck _, _, _, _, none⟩ :: _) _ _; refine SW.st (st_nilCheck rfl) rfl ?_)
      | (show SW _ _ _ _ (⟨_, Op.build _ _, _, _, _, none⟩ :: _) _ _; refine SW.st (st_build rfl rfl) rfl ?_)
      | (show SW _ _ _ _ (⟨_, Op.binOp _ _ _ _ _, _, _, _, none⟩ :: _) _ _; first | refine SW.st (st_add rfl rfl (by omega) (by omega)) rfl ?_ | refine SW.st (st_sub rfl rfl (by omega) (by omega)) rfl ?_ | refine SW.st (st_mul rfl rfl (by omega) (by omega)) rfl ?_ | refine SW.st (st_quo rfl rfl (by omega) (by omega) (by omega)) rfl ?_ | refine SW.st (st_rem rfl rfl (by omega)) rfl ?_)
      | (show SW _ _ _ _ (⟨_, Op.indexAddr _ _ _, _, _, _, none⟩ :: _) _ _; refine SW.st (st_indexN rfl rfl (by assumption) (by omega)) rfl ?_)
      | (show SW _ _ _ _ (⟨_, Op.call ⟨.builtin .len, _, _⟩, _, _, _, none⟩ :: _) _ _; refine SW.st (st_len rfl) rfl ?_)
      | (show SW _ _ _ _ (⟨_, Op.call ⟨.builtin .cap, _, _⟩, _, _, _, none⟩ :: _) _ _; refine SW.st (st_cap rfl) rfl ?_)
      | (show SW _ _ _ _ (⟨_, Op.load _ _, _, _, _, none⟩ :: _) _ _; first | refine SW.st (st_load rfl (h5.cell rfl)) rfl ?_ | refine SW.st (st_loadx hw rfl (h5.cell rfl)) rfl ?_ | refine SW.st (st_load rfl e7) rfl ?_ | refine SW.st (st_loadx hw rfl e7) rfl ?_ | refine SW.st (st_load rfl e11) rfl ?_ | refine SW.st (st_loadx hw rfl e11) rfl ?_)
      | (show SW _ _ _ _ (⟨_, Op.call ⟨.value (.func _), _, _⟩, _, _, _, none⟩ :: _) _ _; first | (refine SW.call rfl rfl (In_ans _ _ _ _) ?_; intro v w1 hw1 hv; subst hv; replace hw := Ext.trans hw hw1; clear hw1) | (refine SW.call rfl rfl (inRegions_ans _ _ _ _ _ _ (hl.ext hw) hlo hn) ?_; intro v w1 hw1 hv; subst hv; replace hw := Ext.trans hw hw1; clear hw1)))
    all_goals first | exact Post.ret1 rfl rfl ⟨_, rfl, hw, rfl⟩ | (exfalso; omega)

theorem ChangedOf_ans (A : Option Addr) (n c : Nat) (B : Option Addr) (m d : Nat) (x y : List Region) (r : Region) (res wth : Bool) (N : Nat) (hN : N = 256) (w : World) (hx : Sl w 2 encR A n x) (hy : Sl w 2 encR B m y) (hn : n * 16 ≤ 140737488355328) (hm : m * 16 ≤ 140737488355328) :
    Ans Try.prog 38 [.agg (bootCells A n c B m d).toArray, .agg (encR r).toArray, .bool res, .bool wth] w (ChangeOut w.heap.size (changeV N x y r res wth)) := by
  refine ans_of Try.func38 rfl Try.ntmps38 rfl ?_
  refine CW.seq (CW.region (SW.box rfl rfl fun b w1 hw hb hB => ?_))
  refine SW.box rfl rfl fun b5 w2 hw2 hb5 hB5 => ?_
  replace hw := Ext.trans hw hw2
  replace hB := hB.ext hw2
  refine SW.box1 rfl rfl rfl fun b7 w3 hw3 hb7 hB7 => ?_
  replace hw := Ext.trans hw hw3
  replace hB := hB.ext hw3
  replace hB5 := hB5.ext hw3
  refine SW.alloc rfl fun b8 w3 hw3 hb8 hB8 => ?_
  have hb8w : w.heap.size ≤ b8 := Nat.le_trans hw.size hb8
  replace hw := Ext.trans hw hw3
  replace hB := hB.ext hw3
  replace hB5 := hB5.ext hw3
  replace hB7 := hB7.ext hw3
  obtain ⟨q, hq⟩ : ∃ b, bootB x y = b := ⟨_, rfl⟩
  have c1 : ∀ w', Ext w w' → Ans Try.prog 87 [.agg (bootCells A n c B m d).toArray] w' fun v _ => v = .bool q := fun w' h => by have := BootMay_ans A n c B m d x y w' (hx.ext h) (hy.ext h) (by omega) (by omega); rwa [hq] at this
  cases q
  · rw [changeV_8 hq]
    repeat' (first
      | (show CW _ _ _ _ _ _; first | refine CW.seq ?_ | refine CW.region ?_ | refine CW.block ?_ | refine CW.condtr rfl (by with_reducible rfl) ?_ | refine CW.condfr rfl (by with_reducible rfl) ?_ | refine CW.condd_t rfl (by omega) ?_ | refine CW.condd_f rfl (by omega) ?_ | refine CW.condn_t rfl (by omega) ?_ | refine CW.condn_f rfl (by omega) ?_ | refine CW.condd rfl (fun h => ?_) (fun h => ?_) | refine CW.condn rfl (fun h => ?_) (fun h => ?_) | refine CW.condt rfl ?_ | refine CW.condf rfl ?_ | refine CW.cond rfl (fun h => ?_) (fun h => ?_) | refine CW.skip ?_ | refine CW.ret ?_ | refine CW.exit ?_)
      | (show Post _ _ _ _ _; first | refine Post.seq ?_ | refine Post.seq_ret ?_ | refine Post.seq_exit ?_ | refine Post.hit ?_ | refine Post.pass rfl ?_ | refine Post.blk ?_ | refine Post.blk_ret ?_ | refine Post.again_exit ?_ | refine Post.again_ret ?_ | refine Post.np ?_)
      | refine SW.nil ?_
      | (show SW _ _ _ _ (⟨_, _, _, _, _, some _⟩ :: _) _ _; first | refine SW.want_t rfl rfl (by with_reducible rfl) ?_ | refine SW.want_f rfl rfl (by with_reducible rfl) ?_ | refine SW.skip_t rfl rfl (by with_reducible rfl) rfl ?_ | refine SW.skip_f rfl rfl (by with_reducible rfl) rfl ?_ | refine SW.skip_u rfl rfl (by with_reducible rfl) rfl ?_ | refine SW.splitd_t rfl rfl rfl (by omega) ?_ | refine SW.splitd_f rfl rfl rfl (by omega) ?_ | refine SW.splitn_t rfl rfl rfl (by omega) ?_ | refine SW.splitn_f rfl rfl rfl (by omega) ?_ | refine SW.splitd rfl rfl rfl (fun h => ?_) (fun h => ?_) | refine SW.splitn rfl rfl rfl (fun h => ?_) (fun h => ?_) | refine SW.want rfl rfl ?_ | refine SW.skip rfl rfl rfl rfl ?_ | refine SW.skipu rfl rfl rfl ?_ | refine SW.split rfl rfl rfl (fun h => ?_) (fun h => ?_))
      | refine SW.pure rfl rfl ?_
      | (show SW _ _ _ _ (⟨_, Op.fieldAddr _ _ _, _, _, _, none⟩ :: _) _ _; refine SW.st (st_field rfl) rfl ?_)
      | (show SW _ _ _ _ (⟨_, Op.nilCheck _, _, _, _, none⟩ :: _) _ _; refine SW.st (st_nilCheck rfl) rfl ?_)
      | (show SW _ _ _ _ (⟨_, Op.build _ _, _, _, _, none⟩ :: _) _ _; refine SW.st (st_build rfl rfl) rfl ?_)
      | (show SW _ _ _ _ (⟨_, Op.binOp _ _ _ _ _, _, _, _, none⟩ :: _) _ _; first | refine SW.st (st_add rfl rfl (by omega) (by omega)) rfl ?_ | refine SW.st (st_sub rfl rfl (by omega) (by omega)) rfl ?_ | refine SW.st (st_mul rfl rfl (by omega) (by omega)) rfl ?_ | refine SW.st (st_quo rfl rfl (by omega) (by omega) (by omega)) rfl ?_ | refine SW.st (st_rem rfl rfl (by omega)) rfl ?_)
      | (show SW _ _ _ _ (⟨_, Op.indexAddr _ _ _, _, _, _, none⟩ :: _) _ _; refine SW.st (st_indexN rfl rfl (by assumption) (by omega)) rfl ?_)
      | (show SW _ _ _ _ (⟨_, Op.call ⟨.builtin .len, _, _⟩, _, _, _, none⟩ :: _) _ _; refine SW.st (st_len rfl) rfl ?_)
      | (show SW _ _ _ _ (⟨_, Op.call ⟨.builtin .cap, _, _⟩, _, _, _, none⟩ :: _) _ _; refine SW.st (st_cap rfl) rfl ?_)
      | (show SW _ _ _ _ (⟨_, Op.load _ _, _, _, _, none⟩ :: _) _ _; first | refine SW.st (st_loads rfl rfl ((fun _ _ => hB.cell))) rfl ?_ | refine SW.st (st_loadsx hw rfl rfl ((fun _ _ => hB.cell))) rfl ?_)
      | (show SW _ _ _ _ (⟨_, Op.call ⟨.value (.func _), _, _⟩, _, _, _, none⟩ :: _) _ _; (refine SW.call rfl rfl (c1 _ hw) ?_; intro v w1 hw1 hv; subst hv; replace hw := Ext.trans hw hw1; replace hB := hB.ext hw1; replace hB5 := hB5.ext hw1; replace hB7 := hB7.ext hw1; replace hB8 := hB8.ext hw1; clear hw1)))
    refine SW.storeAgg hB8 rfl rfl rfl rfl (one_boot none 0 0 none 0 0) fun w5 hR2 hg => ?_
    replace hw := hw.own hb8w hg
    repeat' (first
      | (show CW _ _ _ _ _ _; first | refine CW.seq ?_ | refine CW.region ?_ | refine CW.block ?_ | refine CW.condtr rfl (by with_reducible rfl) ?_ | refine CW.condfr rfl (by with_reducible rfl) ?_ | refine CW.condd_t rfl (by omega) ?_ | refine CW.condd_f rfl (by omega) ?_ | refine CW.condn_t rfl (by omega) ?_ | refine CW.condn_f rfl (by omega) ?_ | refine CW.condd rfl (fun h => ?_) (fun h => ?_) | refine CW.condn rfl (fun h => ?_) (fun h => ?_) | refine CW.condt rfl ?_ | refine CW.condf rfl ?_ | refine CW.cond rfl (fun h => ?_) (fun h => ?_) | refine CW.skip ?_ | refine CW.ret ?_ | refine CW.exit ?_)
      | (show Post _ _ _ _ _; first | refine Post.seq ?_ | refine Post.seq_ret ?_ | refine Post.seq_exit ?_ | refine Post.hit ?_ | refine Post.pass rfl ?_ | refine Post.blk ?_ | refine Post.blk_ret ?_ | refine Post.again_exit ?_ | refine Post.again_ret ?_ | refine Post.np ?_)
      | refine SW.nil ?_
      | (show SW _ _ _ _ (⟨_, _, _, _, _, some _⟩ :: _) _ _; first | refine SW.want_t rfl rfl (by with_reducible rfl) ?_ | refine SW.want_f rfl rfl (by with_reducible rfl) ?_ | refine SW.skip_t rfl rfl (by with_reducible rfl) rfl ?_ | refine SW.skip_f rfl rfl (by with_reducible rfl) rfl ?_ | refine SW.skip_u rfl rfl (by with_reducible rfl) rfl ?_ | refine SW.splitd_t rfl rfl rfl (by omega) ?_ | refine SW.splitd_f rfl rfl rfl (by omega) ?_ | refine SW.splitn_t rfl rfl rfl (by omega) ?_ | refine SW.splitn_f rfl rfl rfl (by omega) ?_ | refine SW.splitd rfl rfl rfl (fun h => ?_) (fun h => ?_) | refine SW.splitn rfl rfl rfl (fun h => ?_) (fun h => ?_) | refine SW.want rfl rfl ?_ | refine SW.skip rfl rfl rfl rfl ?_ | refine SW.skipu rfl rfl rfl ?_ | refine SW.split rfl rfl rfl (fun h => ?_) (fun h => ?_))
      | refine SW.pure rfl rfl ?_
      | (show SW _ _ _ _ (⟨_, Op.fieldAddr _ _ _, _, _, _, none⟩ :: _) _ _; refine SW.st (st_field rfl) rfl ?_)
      | (show SW _ _ _ _ (⟨_, Op.nilCheck _, _, _, _, none⟩ :: _) _ _; refine SW.st (st_nilCheck rfl) rfl ?_)
      | (show SW _ _ _ _ (⟨_, Op.build _ _, _, _, _, none⟩ :: _) _ _; refine SW.st (st_build rfl rfl) rfl ?_)
      | (show SW _ _ _ _ (⟨_, Op.binOp _ _ _ _ _, _, _, _, none⟩ :: _) _ _; first | refine SW.st (st_add rfl rfl (by omega) (by omega)) rfl ?_ | refine SW.st (st_sub rfl rfl (by omega) (by omega)) rfl ?_ | refine SW.st (st_mul rfl rfl (by omega) (by omega)) rfl ?_ | refine SW.st (st_quo rfl rfl (by omega) (by omega) (by omega)) rfl ?_ | refine SW.st (st_rem rfl rfl (by omega)) rfl ?_)
      | (show SW _ _ _ _ (⟨_, Op.indexAddr _ _ _, _, _, _, none⟩ :: _) _ _; refine SW.st (st_indexN rfl rfl (by assumption) (by omega)) rfl ?_)
      | (show SW _ _ _ _ (⟨_, Op.call ⟨.builtin .len, _, _⟩, _, _, _, none⟩ :: _) _ _; refine SW.st (st_len rfl) rfl ?_)
      | (show SW _ _ _ _ (⟨_, Op.call ⟨.builtin .cap, _, _⟩, _, _, _, none⟩ :: _) _ _; refine SW.st (st_cap rfl) rfl ?_))
    exact Post.ret2c rfl rfl rfl hR2 rfl ⟨_, rfl, hw, _, rfl, BootIs.nil _ _⟩
  · obtain ⟨hxo, hyo⟩ := bootB_ok hq
    by_cases hr : r.ok
    · have c2 : ∀ w', Ext w w' → Ans Try.prog 92 [.agg (encR r).toArray] w' fun v _ => v = .int .i64 0 := fun w' h => RegionFault_ok hr w'
      repeat' (first
        | (show CW _ _ _ _ _ _; first | refine CW.seq ?_ | refine CW.region ?_ | refine CW.block ?_ | refine CW.condtr rfl (by with_reducible rfl) ?_ | refine CW.condfr rfl (by with_reducible rfl) ?_ | refine CW.condd_t rfl (by omega) ?_ | refine CW.condd_f rfl (by omega) ?_ | refine CW.condn_t rfl (by omega) ?_ | refine CW.condn_f rfl (by omega) ?_ | refine CW.condd rfl (fun h => ?_) (fun h => ?_) | refine CW.condn rfl (fun h => ?_) (fun h => ?_) | refine CW.condt rfl ?_ | refine CW.condf rfl ?_ | refine CW.cond rfl (fun h => ?_) (fun h => ?_) | refine CW.skip ?_ | refine CW.ret ?_ | refine CW.exit ?_)
        | (show Post _ _ _ _ _; first | refine Post.seq ?_ | refine Post.seq_ret ?_ | refine Post.seq_exit ?_ | refine Post.hit ?_ | refine Post.pass rfl ?_ | refine Post.blk ?_ | refine Post.blk_ret ?_ | refine Post.again_exit ?_ | refine Post.again_ret ?_ | refine Post.np ?_)
        | refine SW.nil ?_
        | (show SW _ _ _ _ (⟨_, _, _, _, _, some _⟩ :: _) _ _; first | refine SW.want_t rfl rfl (by with_reducible rfl) ?_ | refine SW.want_f rfl rfl (by with_reducible rfl) ?_ | refine SW.skip_t rfl rfl (by with_reducible rfl) rfl ?_ | refine SW.skip_f rfl rfl (by with_reducible rfl) rfl ?_ | refine SW.skip_u rfl rfl (by with_reducible rfl) rfl ?_ | refine SW.splitd_t rfl rfl rfl (by omega) ?_ | refine SW.splitd_f rfl rfl rfl (by omega) ?_ | refine SW.splitn_t rfl rfl rfl (by omega) ?_ | refine SW.splitn_f rfl rfl rfl (by omega) ?_ | refine SW.splitd rfl rfl rfl (fun h => ?_) (fun h => ?_) | refine SW.splitn rfl rfl rfl (fun h => ?_) (fun h => ?_) | refine SW.want rfl rfl ?_ | refine SW.skip rfl rfl rfl rfl ?_ | refine SW.skipu rfl rfl rfl ?_ | refine SW.split rfl rfl rfl (fun h => ?_) (fun h => ?_))
        | refine SW.pure rfl rfl ?_
        | (show SW _ _ _ _ (⟨_, Op.fieldAddr _ _ _, _, _, _, none⟩ :: _) _ _; refine SW.st (st_field rfl) rfl ?_)
        | (show SW _ _ _ _ (⟨_, Op.nilCheck _, _, _, _, none⟩ :: _) _ _; refine SW.st (st_nilCheck rfl) rfl ?_)
        | (show SW _ _ _ _ (⟨_, Op.build _ _, _, _, _, none⟩ :: _) _ _; refine SW.st (st_build rfl rfl) rfl ?_)
        | (show SW _ _ _ _ (⟨_, Op.binOp _ _ _ _ _, _, _, _, none⟩ :: _) _ _; first | refine SW.st (st_add rfl rfl (by omega) (by omega)) rfl ?_ | refine SW.st (st_sub rfl rfl (by omega) (by omega)) rfl ?_ | refine SW.st (st_mul rfl rfl (by omega) (by omega)) rfl ?_ | refine SW.st (st_quo rfl rfl (by omega) (by omega) (by omega)) rfl ?_ | refine SW.st (st_rem rfl rfl (by omega)) rfl ?_)
        | (show SW _ _ _ _ (⟨_, Op.indexAddr _ _ _, _, _, _, none⟩ :: _) _ _; refine SW.st (st_indexN rfl rfl (by assumption) (by omega)) rfl ?_)
        | (show SW _ _ _ _ (⟨_, Op.call ⟨.builtin .len, _, _⟩, _, _, _, none⟩ :: _) _ _; refine SW.st (st_len rfl) rfl ?_)
        | (show SW _ _ _ _ (⟨_, Op.call ⟨.builtin .cap, _, _⟩, _, _, _, none⟩ :: _) _ _; refine SW.st (st_cap rfl) rfl ?_)
        | (show SW _ _ _ _ (⟨_, Op.load _ _, _, _, _, none⟩ :: _) _ _; first | refine SW.st (st_loads rfl rfl ((fun _ _ => hB.cell))) rfl ?_ | refine SW.st (st_loadsx hw rfl rfl ((fun _ _ => hB.cell))) rfl ?_ | refine SW.st (st_loads rfl rfl ((fun _ _ => hB5.cell))) rfl ?_ | refine SW.st (st_loadsx hw rfl rfl ((fun _ _ => hB5.cell))) rfl ?_ | refine SW.st (st_load rfl (hB.cell rfl)) rfl ?_ | refine SW.st (st_loadx hw rfl (hB.cell rfl)) rfl ?_)
        | (show SW _ _ _ _ (⟨_, Op.call ⟨.value (.func _), _, _⟩, _, _, _, none⟩ :: _) _ _; first | (refine SW.call rfl rfl (c1 _ hw) ?_; intro v w1 hw1 hv; subst hv; replace hw := Ext.trans hw hw1; replace hB := hB.ext hw1; replace hB5 := hB5.ext hw1; replace hB7 := hB7.ext hw1; replace hB8 := hB8.ext hw1; clear hw1) | (refine SW.call rfl rfl (c2 _ hw) ?_; intro v w1 hw1 hv; subst hv; replace hw := Ext.trans hw hw1; replace hB := hB.ext hw1; replace hB5 := hB5.ext hw1; replace hB7 := hB7.ext hw1; replace hB8 := hB8.ext hw1; clear hw1)))
      refine SW.alloc rfl fun b11 w3 hw3 hb11 hB11 => ?_
      have hb11w : w.heap.size ≤ b11 := Nat.le_trans hw.size hb11
      have hne8 : b8 ≠ b11 := by have := hB8.lt; omega
      have hneb : b ≠ b11 := by have := hB.lt; omega
      have hne5 : b5 ≠ b11 := by have := hB5.lt; omega
      have hne7 : b7 ≠ b11 := by have := hB7.lt; omega
      replace hw := Ext.trans hw hw3
      replace hB := hB.ext hw3
      replace hB5 := hB5.ext hw3
      replace hB7 := hB7.ext hw3
      replace hB8 := hB8.ext hw3
      repeat' (first
        | (show CW _ _ _ _ _ _; first | refine CW.seq ?_ | refine CW.region ?_ | refine CW.block ?_ | refine CW.condtr rfl (by with_reducible rfl) ?_ | refine CW.condfr rfl (by with_reducible rfl) ?_ | refine CW.condd_t rfl (by omega) ?_ | refine CW.condd_f rfl (by omega) ?_ | refine CW.condn_t rfl (by omega) ?_ | refine CW.condn_f rfl (by omega) ?_ | refine CW.condd rfl (fun h => ?_) (fun h => ?_) | refine CW.condn rfl (fun h => ?_) (fun h => ?_) | refine CW.condt rfl ?_ | refine CW.condf rfl ?_ | refine CW.cond rfl (fun h => ?_) (fun h => ?_) | refine CW.skip ?_ | refine CW.ret ?_ | refine CW.exit ?_)
        | (show Post _ _ _ _ _; first | refine Post.seq ?_ | refine Post.seq_ret ?_ | refine Post.seq_exit ?_ | refine Post.hit ?_ | refine Post.pass rfl ?_ | refine Post.blk ?_ | refine Post.blk_ret ?_ | refine Post.again_exit ?_ | refine Post.again_ret ?_ | refine Post.np ?_)
        | refine SW.nil ?_
        | (show SW _ _ _ _ (⟨_, _, _, _, _, some _⟩ :: _) _ _; first | refine SW.want_t rfl rfl (by with_reducible rfl) ?_ | refine SW.want_f rfl rfl (by with_reducible rfl) ?_ | refine SW.skip_t rfl rfl (by with_reducible rfl) rfl ?_ | refine SW.skip_f rfl rfl (by with_reducible rfl) rfl ?_ | refine SW.skip_u rfl rfl (by with_reducible rfl) rfl ?_ | refine SW.splitd_t rfl rfl rfl (by omega) ?_ | refine SW.splitd_f rfl rfl rfl (by omega) ?_ | refine SW.splitn_t rfl rfl rfl (by omega) ?_ | refine SW.splitn_f rfl rfl rfl (by omega) ?_ | refine SW.splitd rfl rfl rfl (fun h => ?_) (fun h => ?_) | refine SW.splitn rfl rfl rfl (fun h => ?_) (fun h => ?_) | refine SW.want rfl rfl ?_ | refine SW.skip rfl rfl rfl rfl ?_ | refine SW.skipu rfl rfl rfl ?_ | refine SW.split rfl rfl rfl (fun h => ?_) (fun h => ?_))
        | refine SW.pure rfl rfl ?_
        | (show SW _ _ _ _ (⟨_, Op.fieldAddr _ _ _, _, _, _, none⟩ :: _) _ _; refine SW.st (st_field rfl) rfl ?_)
        | (show SW _ _ _ _ (⟨_, Op.nilCheck _, _, _, _, none⟩ :: _) _ _; refine SW.st (st_nilCheck rfl) rfl ?_)
        | (show SW _ _ _ _ (⟨_, Op.build _ _, _, _, _, none⟩ :: _) _ _; refine SW.st (st_build rfl rfl) rfl ?_)
        | (show SW _ _ _ _ (⟨_, Op.binOp _ _ _ _ _, _, _, _, none⟩ :: _) _ _; first | refine SW.st (st_add rfl rfl (by omega) (by omega)) rfl ?_ | refine SW.st (st_sub rfl rfl (by omega) (by omega)) rfl ?_ | refine SW.st (st_mul rfl rfl (by omega) (by omega)) rfl ?_ | refine SW.st (st_quo rfl rfl (by omega) (by omega) (by omega)) rfl ?_ | refine SW.st (st_rem rfl rfl (by omega)) rfl ?_)
        | (show SW _ _ _ _ (⟨_, Op.indexAddr _ _ _, _, _, _, none⟩ :: _) _ _; refine SW.st (st_indexN rfl rfl (by assumption) (by omega)) rfl ?_)
        | (show SW _ _ _ _ (⟨_, Op.call ⟨.builtin .len, _, _⟩, _, _, _, none⟩ :: _) _ _; refine SW.st (st_len rfl) rfl ?_)
        | (show SW _ _ _ _ (⟨_, Op.call ⟨.builtin .cap, _, _⟩, _, _, _, none⟩ :: _) _ _; refine SW.st (st_cap rfl) rfl ?_))
      refine SW.storeB (i := 0) hB11 rfl rfl rfl rfl fun w4 hB11' hg => ?_
      replace hB11 := hB11'
      clear hB11'
      replace hw := hw.own hb11w hg
      replace hB := hB.grown hg (by simpa using hneb)
      replace hB5 := hB5.grown hg (by simpa using hne5)
      replace hB7 := hB7.grown hg (by simpa using hne7)
      replace hB8 := hB8.grown hg (by simpa using hne8)
      cases res
      · repeat' (first
          | (show CW _ _ _ _ _ _; first | refine CW.seq ?_ | refine CW.region ?_ | refine CW.block ?_ | refine CW.condtr rfl (by with_reducible rfl) ?_ | refine CW.condfr rfl (by with_reducible rfl) ?_ | refine CW.condd_t rfl (by omega) ?_ | refine CW.condd_f rfl (by omega) ?_ | refine CW.condn_t rfl (by omega) ?_ | refine CW.condn_f rfl (by omega) ?_ | refine CW.condd rfl (fun h => ?_) (fun h => ?_) | refine CW.condn rfl (fun h => ?_) (fun h => ?_) | refine CW.condt rfl ?_ | refine CW.condf rfl ?_ | refine CW.cond rfl (fun h => ?_) (fun h => ?_) | refine CW.skip ?_ | refine CW.ret ?_ | refine CW.exit ?_)
          | (show Post _ _ _ _ _; first | refine Post.seq ?_ | refine Post.seq_ret ?_ | refine Post.seq_exit ?_ | refine Post.hit ?_ | refine Post.pass rfl ?_ | refine Post.blk ?_ | refine Post.blk_ret ?_ | refine Post.again_exit ?_ | refine Post.again_ret ?_ | refine Post.np ?_)
          | refine SW.nil ?_
          | (show SW _ _ _ _ (⟨_, _, _, _, _, some _⟩ :: _) _ _; first | refine SW.want_t rfl rfl (by with_reducible rfl) ?_ | refine SW.want_f rfl rfl (by with_reducible rfl) ?_ | refine SW.skip_t rfl rfl (by with_reducible rfl) rfl ?_ | refine SW.skip_f rfl rfl (by with_reducible rfl) rfl ?_ | refine SW.skip_u rfl rfl (by with_reducible rfl) rfl ?_ | refine SW.splitd_t rfl rfl rfl (by omega) ?_ | refine SW.splitd_f rfl rfl rfl (by omega) ?_ | refine SW.splitn_t rfl rfl rfl (by omega) ?_ | refine SW.splitn_f rfl rfl rfl (by omega) ?_ | refine SW.splitd rfl rfl rfl (fun h => ?_) (fun h => ?_) | refine SW.splitn rfl rfl rfl (fun h => ?_) (fun h => ?_) | refine SW.want rfl rfl ?_ | refine SW.skip rfl rfl rfl rfl ?_ | refine SW.skipu rfl rfl rfl ?_ | refine SW.split rfl rfl rfl (fun h => ?_) (fun h => ?_))
          | refine SW.pure rfl rfl ?_
          | (show SW _ _ _ _ (⟨_, Op.fieldAddr _ _ _, _, _, _, none⟩ :: _) _ _; refine SW.st (st_field rfl) rfl ?_)
          | (show SW _ _ _ _ (⟨_, Op.nilCheck _, _, _, _, none⟩ :: _) _ _; refine SW.st (st_nilCheck rfl) rfl ?_)
          | (show SW _ _ _ _ (⟨_, Op.build _ _, _, _, _, none⟩ :: _) _ _; refine SW.st (st_build rfl rfl) rfl ?_)
          | (show SW _ _ _ _ (⟨_, Op.binOp _ _ _ _ _, _, _, _, none⟩ :: _) _ _; first | refine SW.st (st_add rfl rfl (by omega) (by omega)) rfl ?_ | refine SW.st (st_sub rfl rfl (by omega) (by omega)) rfl ?_ | refine SW.st (st_mul rfl rfl (by omega) (by omega)) rfl ?_ | refine SW.st (st_quo rfl rfl (by omega) (by omega) (by omega)) rfl ?_ | refine SW.st (st_rem rfl rfl (by omega)) rfl ?_)
          | (show SW _ _ _ _ (⟨_, Op.indexAddr _ _ _, _, _, _, none⟩ :: _) _ _; refine SW.st (st_indexN rfl rfl (by assumption) (by omega)) rfl ?_)
          | (show SW _ _ _ _ (⟨_, Op.call ⟨.builtin .len, _, _⟩, _, _, _, none⟩ :: _) _ _; refine SW.st (st_len rfl) rfl ?_)
          | (show SW _ _ _ _ (⟨_, Op.call ⟨.builtin .cap, _, _⟩, _, _, _, none⟩ :: _) _ _; refine SW.st (st_cap rfl) rfl ?_)
          | (show SW _ _ _ _ (⟨_, Op.load _ _, _, _, _, none⟩ :: _) _ _; first | refine SW.st (st_load rfl (hB.cell rfl)) rfl ?_ | refine SW.st (st_loadx hw rfl (hB.cell rfl)) rfl ?_))
        try
          refine SW.storeB (i := 0) hB11 rfl rfl rfl rfl fun w4 hB11' hg => ?_
          replace hB11 := hB11'
          clear hB11'
          replace hw := hw.own hb11w hg
          replace hB := hB.grown hg (by simpa using hneb)
          replace hB5 := hB5.grown hg (by simpa using hne5)
          replace hB7 := hB7.grown hg (by simpa using hne7)
          replace hB8 := hB8.grown hg (by simpa using hne8)
          repeat' (first
            | (show CW _ _ _ _ _ _; first | refine CW.seq ?_ | refine CW.region ?_ | refine CW.block ?_ | refine CW.condtr rfl (by with_reducible rfl) ?_ | refine CW.condfr rfl (by with_reducible rfl) ?_ | refine CW.condd_t rfl (by omega) ?_ | refine CW.condd_f rfl (by omega) ?_ | refine CW.condn_t rfl (by omega) ?_ | refine CW.condn_f rfl (by omega) ?_ | refine CW.condd rfl (fun h => ?_) (fun h => ?_) | refine CW.condn rfl (fun h => ?_) (fun h => ?_) | refine CW.condt rfl ?_ | refine CW.condf rfl ?_ | refine CW.cond rfl (fun h => ?_) (fun h => ?_) | refine CW.skip ?_ | refine CW.ret ?_ | refine CW.exit ?_)
            | (show Post _ _ _ _ _; first | refine Post.seq ?_ | refine Post.seq_ret ?_ | refine Post.seq_exit ?_ | refine Post.hit ?_ | refine Post.pass rfl ?_ | refine Post.blk ?_ | refine Post.blk_ret ?_ | refine Post.again_exit ?_ | refine Post.again_ret ?_ | refine Post.np ?_)
            | refine SW.nil ?_
            | (show SW _ _ _ _ (⟨_, _, _, _, _, some _⟩ :: _) _ _; first | refine SW.want_t rfl rfl (by with_reducible rfl) ?_ | refine SW.want_f rfl rfl (by with_reducible rfl) ?_ | refine SW.skip_t rfl rfl (by with_reducible rfl) rfl ?_ | refine SW.skip_f rfl rfl (by with_reducible rfl) rfl ?_ | refine SW.skip_u rfl rfl (by with_reducible rfl) rfl ?_ | refine SW.splitd_t rfl rfl rfl (by omega) ?_ | refine SW.splitd_f rfl rfl rfl (by omega) ?_ | refine SW.splitn_t rfl rfl rfl (by omega) ?_ | refine SW.splitn_f rfl rfl rfl (by omega) ?_ | refine SW.splitd rfl rfl rfl (fun h => ?_) (fun h => ?_) | refine SW.splitn rfl rfl rfl (fun h => ?_) (fun h => ?_) | refine SW.want rfl rfl ?_ | refine SW.skip rfl rfl rfl rfl ?_ | refine SW.skipu rfl rfl rfl ?_ | refine SW.split rfl rfl rfl (fun h => ?_) (fun h => ?_))
            | refine SW.pure rfl rfl ?_
            | (show SW _ _ _ _ (⟨_, Op.fieldAddr _ _ _, _, _, _, none⟩ :: _) _ _; refine SW.st (st_field rfl) rfl ?_)
            | (show SW _ _ _ _ (⟨_, Op.nilCheck _, _, _, _, none⟩ :: _) _ _; refine SW.st (st_nilCheck rfl) rfl ?_)
            | (show SW _ _ _ _ (⟨_, Op.build _ _, _, _, _, none⟩ :: _) _ _; refine SW.st (st_build rfl rfl) rfl ?_)
            | (show SW _ _ _ _ (⟨_, Op.binOp _ _ _ _ _, _, _, _, none⟩ :: _) _ _; first | refine SW.st (st_add rfl rfl (by omega) (by omega)) rfl ?_ | refine SW.st (st_sub rfl rfl (by omega) (by omega)) rfl ?_ | refine SW.st (st_mul rfl rfl (by omega) (by omega)) rfl ?_ | refine SW.st (st_quo rfl rfl (by omega) (by omega) (by omega)) rfl ?_ | refine SW.st (st_rem rfl rfl (by omega)) rfl ?_)
            | (show SW _ _ _ _ (⟨_, Op.indexAddr _ _ _, _, _, _, none⟩ :: _) _ _; refine SW.st (st_indexN rfl rfl (by assumption) (by omega)) rfl ?_)
            | (show SW _ _ _ _ (⟨_, Op.call ⟨.builtin .len, _, _⟩, _, _, _, none⟩ :: _) _ _; refine SW.st (st_len rfl) rfl ?_)
            | (show SW _ _ _ _ (⟨_, Op.call ⟨.builtin .cap, _, _⟩, _, _, _, none⟩ :: _) _ _; refine SW.st (st_cap rfl) rfl ?_))
        refine SW.st (st_func (vs := [.pointer (some ⟨b5, 0, none⟩), .pointer (some ⟨b7, 0, none⟩), .pointer (some ⟨b11, 0, none⟩)]) rfl) rfl ?_
        have hF : ∀ w0, Ext w w0 → Blk w0 b5 54 (encR r) → Blk w0 b7 4 [.bool wth] → Blk w0 b11 46 [.slice A n c] → ∀ (z : Int) (w' : World), 0 ≤ z → z < 256 → Ext w0 w' →
            Ans Try.prog 93 ([.int .i64 z] ++ [.pointer (some ⟨b5, 0, none⟩), .pointer (some ⟨b7, 0, none⟩), .pointer (some ⟨b11, 0, none⟩)]) w' fun u _ => u = .bool (withReg (if false then y else x) r wth z.toNat) := fun w0 h0 h5 h7 h11 z w' h1 h2 h3 =>
          changedC_ans _ _ _ _ r wth z b5 b7 b11 w' (h5.ext h3) (h7.ext h3) (h11.ext h3) (hx.ext (h0.trans h3)) hxo hr (by omega) h1
        refine SW.call rfl rfl (drawn_ans 93 _ N hN _ _ (hF _ hw hB5 hB7 hB11)) fun v w2 hw2 hv => ?_
        obtain ⟨J, cJ, rfl, hJ⟩ := hv
        replace hJ := hJ.low hw.size
        replace hw := Ext.trans hw hw2
        replace hB := hB.ext hw2
        replace hB8 := hB8.ext hw2
        by_cases h40 : 40 < (runs (withReg (if false then y else x) r wth) N).length
        · rw [changeV_9 hq hr h40]
          repeat' (first
            | (show CW _ _ _ _ _ _; first | refine CW.seq ?_ | refine CW.region ?_ | refine CW.block ?_ | refine CW.condtr rfl (by with_reducible rfl) ?_ | refine CW.condfr rfl (by with_reducible rfl) ?_ | refine CW.condd_t rfl (by omega) ?_ | refine CW.condd_f rfl (by omega) ?_ | refine CW.condn_t rfl (by omega) ?_ | refine CW.condn_f rfl (by omega) ?_ | refine CW.condd rfl (fun h => ?_) (fun h => ?_) | refine CW.condn rfl (fun h => ?_) (fun h => ?_) | refine CW.condt rfl ?_ | refine CW.condf rfl ?_ | refine CW.cond rfl (fun h => ?_) (fun h => ?_) | refine CW.skip ?_ | refine CW.ret ?_ | refine CW.exit ?_)
            | (show Post _ _ _ _ _; first | refine Post.seq ?_ | refine Post.seq_ret ?_ | refine Post.seq_exit ?_ | refine Post.hit ?_ | refine Post.pass rfl ?_ | refine Post.blk ?_ | refine Post.blk_ret ?_ | refine Post.again_exit ?_ | refine Post.again_ret ?_ | refine Post.np ?_)
            | refine SW.nil ?_
            | (show SW _ _ _ _ (⟨_, _, _, _, _, some _⟩ :: _) _ _; first | refine SW.want_t rfl rfl (by with_reducible rfl) ?_ | refine SW.want_f rfl rfl (by with_reducible rfl) ?_ | refine SW.skip_t rfl rfl (by with_reducible rfl) rfl ?_ | refine SW.skip_f rfl rfl (by with_reducible rfl) rfl ?_ | refine SW.skip_u rfl rfl (by with_reducible rfl) rfl ?_ | refine SW.splitd_t rfl rfl rfl (by omega) ?_ | refine SW.splitd_f rfl rfl rfl (by omega) ?_ | refine SW.splitn_t rfl rfl rfl (by omega) ?_ | refine SW.splitn_f rfl rfl rfl (by omega) ?_ | refine SW.splitd rfl rfl rfl (fun h => ?_) (fun h => ?_) | refine SW.splitn rfl rfl rfl (fun h => ?_) (fun h => ?_) | refine SW.want rfl rfl ?_ | refine SW.skip rfl rfl rfl rfl ?_ | refine SW.skipu rfl rfl rfl ?_ | refine SW.split rfl rfl rfl (fun h => ?_) (fun h => ?_))
            | refine SW.pure rfl rfl ?_
            | (show SW _ _ _ _ (⟨_, Op.fieldAddr _ _ _, _, _, _, none⟩ :: _) _ _; refine SW.st (st_field rfl) rfl ?_)
            | (show SW _ _ _ _ (⟨_, Op.nilCheck _, _, _, _, none⟩ :: _) _ _; refine SW.st (st_nilCheck rfl) rfl ?_)
            | (show SW _ _ _ _ (⟨_, Op.build _ _, _, _, _, none⟩ :: _) _ _; refine SW.st (st_build rfl rfl) rfl ?_)
            | (show SW _ _ _ _ (⟨_, Op.binOp _ _ _ _ _, _, _, _, none⟩ :: _) _ _; first | refine SW.st (st_add rfl rfl (by omega) (by omega)) rfl ?_ | refine SW.st (st_sub rfl rfl (by omega) (by omega)) rfl ?_ | refine SW.st (st_mul rfl rfl (by omega) (by omega)) rfl ?_ | refine SW.st (st_quo rfl rfl (by omega) (by omega) (by omega)) rfl ?_ | refine SW.st (st_rem rfl rfl (by omega)) rfl ?_)
            | (show SW _ _ _ _ (⟨_, Op.indexAddr _ _ _, _, _, _, none⟩ :: _) _ _; refine SW.st (st_indexN rfl rfl (by assumption) (by omega)) rfl ?_)
            | (show SW _ _ _ _ (⟨_, Op.call ⟨.builtin .len, _, _⟩, _, _, _, none⟩ :: _) _ _; refine SW.st (st_len rfl) rfl ?_)
            | (show SW _ _ _ _ (⟨_, Op.call ⟨.builtin .cap, _, _⟩, _, _, _, none⟩ :: _) _ _; refine SW.st (st_cap rfl) rfl ?_))
          refine SW.storeAgg hB8 rfl rfl rfl rfl (one_boot none 0 0 none 0 0) fun w5 hR2 hg => ?_
          replace hw := hw.own hb8w hg
          repeat' (first
            | (show CW _ _ _ _ _ _; first | refine CW.seq ?_ | refine CW.region ?_ | refine CW.block ?_ | refine CW.condtr rfl (by with_reducible rfl) ?_ | refine CW.condfr rfl (by with_reducible rfl) ?_ | refine CW.condd_t rfl (by omega) ?_ | refine CW.condd_f rfl (by omega) ?_ | refine CW.condn_t rfl (by omega) ?_ | refine CW.condn_f rfl (by omega) ?_ | refine CW.condd rfl (fun h => ?_) (fun h => ?_) | refine CW.condn rfl (fun h => ?_) (fun h => ?_) | refine CW.condt rfl ?_ | refine CW.condf rfl ?_ | refine CW.cond rfl (fun h => ?_) (fun h => ?_) | refine CW.skip ?_ | refine CW.ret ?_ | refine CW.exit ?_)
            | (show Post _ _ _ _ _; first | refine Post.seq ?_ | refine Post.seq_ret ?_ | refine Post.seq_exit ?_ | refine Post.hit ?_ | refine Post.pass rfl ?_ | refine Post.blk ?_ | refine Post.blk_ret ?_ | refine Post.again_exit ?_ | refine Post.again_ret ?_ | refine Post.np ?_)
            | refine SW.nil ?_
            | (show SW _ _ _ _ (⟨_, _, _, _, _, some _⟩ :: _) _ _; first | refine SW.want_t rfl rfl (by with_reducible rfl) ?_ | refine SW.want_f rfl rfl (by with_reducible rfl) ?_ | refine SW.skip_t rfl rfl (by with_reducible rfl) rfl ?_ | refine SW.skip_f rfl rfl (by with_reducible rfl) rfl ?_ | refine SW.skip_u rfl rfl (by with_reducible rfl) rfl ?_ | refine SW.splitd_t rfl rfl rfl (by omega) ?_ | refine SW.splitd_f rfl rfl rfl (by omega) ?_ | refine SW.splitn_t rfl rfl rfl (by omega) ?_ | refine SW.splitn_f rfl rfl rfl (by omega) ?_ | refine SW.splitd rfl rfl rfl (fun h => ?_) (fun h => ?_) | refine SW.splitn rfl rfl rfl (fun h => ?_) (fun h => ?_) | refine SW.want rfl rfl ?_ | refine SW.skip rfl rfl rfl rfl ?_ | refine SW.skipu rfl rfl rfl ?_ | refine SW.split rfl rfl rfl (fun h => ?_) (fun h => ?_))
            | refine SW.pure rfl rfl ?_
            | (show SW _ _ _ _ (⟨_, Op.fieldAddr _ _ _, _, _, _, none⟩ :: _) _ _; refine SW.st (st_field rfl) rfl ?_)
            | (show SW _ _ _ _ (⟨_, Op.nilCheck _, _, _, _, none⟩ :: _) _ _; refine SW.st (st_nilCheck rfl) rfl ?_)
            | (show SW _ _ _ _ (⟨_, Op.build _ _, _, _, _, none⟩ :: _) _ _; refine SW.st (st_build rfl rfl) rfl ?_)
            | (show SW _ _ _ _ (⟨_, Op.binOp _ _ _ _ _, _, _, _, none⟩ :: _) _ _; first | refine SW.st (st_add rfl rfl (by omega) (by omega)) rfl ?_ | refine SW.st (st_sub rfl rfl (by omega) (by omega)) rfl ?_ | refine SW.st (st_mul rfl rfl (by omega) (by omega)) rfl ?_ | refine SW.st (st_quo rfl rfl (by omega) (by omega) (by omega)) rfl ?_ | refine SW.st (st_rem rfl rfl (by omega)) rfl ?_)
            | (show SW _ _ _ _ (⟨_, Op.indexAddr _ _ _, _, _, _, none⟩ :: _) _ _; refine SW.st (st_indexN rfl rfl (by assumption) (by omega)) rfl ?_)
            | (show SW _ _ _ _ (⟨_, Op.call ⟨.builtin .len, _, _⟩, _, _, _, none⟩ :: _) _ _; refine SW.st (st_len rfl) rfl ?_)
            | (show SW _ _ _ _ (⟨_, Op.call ⟨.builtin .cap, _, _⟩, _, _, _, none⟩ :: _) _ _; refine SW.st (st_cap rfl) rfl ?_))
          exact Post.ret2c rfl rfl rfl hR2 rfl ⟨_, rfl, hw, _, rfl, BootIs.nil _ _⟩
        · rw [changeV_0 hq hr h40]
          repeat' (first
            | (show CW _ _ _ _ _ _; first | refine CW.seq ?_ | refine CW.region ?_ | refine CW.block ?_ | refine CW.condtr rfl (by with_reducible rfl) ?_ | refine CW.condfr rfl (by with_reducible rfl) ?_ | refine CW.condd_t rfl (by omega) ?_ | refine CW.condd_f rfl (by omega) ?_ | refine CW.condn_t rfl (by omega) ?_ | refine CW.condn_f rfl (by omega) ?_ | refine CW.condd rfl (fun h => ?_) (fun h => ?_) | refine CW.condn rfl (fun h => ?_) (fun h => ?_) | refine CW.condt rfl ?_ | refine CW.condf rfl ?_ | refine CW.cond rfl (fun h => ?_) (fun h => ?_) | refine CW.skip ?_ | refine CW.ret ?_ | refine CW.exit ?_)
            | (show Post _ _ _ _ _; first | refine Post.seq ?_ | refine Post.seq_ret ?_ | refine Post.seq_exit ?_ | refine Post.hit ?_ | refine Post.pass rfl ?_ | refine Post.blk ?_ | refine Post.blk_ret ?_ | refine Post.again_exit ?_ | refine Post.again_ret ?_ | refine Post.np ?_)
            | refine SW.nil ?_
            | (show SW _ _ _ _ (⟨_, _, _, _, _, some _⟩ :: _) _ _; first | refine SW.want_t rfl rfl (by with_reducible rfl) ?_ | refine SW.want_f rfl rfl (by with_reducible rfl) ?_ | refine SW.skip_t rfl rfl (by with_reducible rfl) rfl ?_ | refine SW.skip_f rfl rfl (by with_reducible rfl) rfl ?_ | refine SW.skip_u rfl rfl (by with_reducible rfl) rfl ?_ | refine SW.splitd_t rfl rfl rfl (by omega) ?_ | refine SW.splitd_f rfl rfl rfl (by omega) ?_ | refine SW.splitn_t rfl rfl rfl (by omega) ?_ | refine SW.splitn_f rfl rfl rfl (by omega) ?_ | refine SW.splitd rfl rfl rfl (fun h => ?_) (fun h => ?_) | refine SW.splitn rfl rfl rfl (fun h => ?_) (fun h => ?_) | refine SW.want rfl rfl ?_ | refine SW.skip rfl rfl rfl rfl ?_ | refine SW.skipu rfl rfl rfl ?_ | refine SW.split rfl rfl rfl (fun h => ?_) (fun h => ?_))
            | refine SW.pure rfl rfl ?_
            | (show SW _ _ _ _ (⟨_, Op.fieldAddr _ _ _, _, _, _, none⟩ :: _) _ _; refine SW.st (st_field rfl) rfl ?_)
            | (show SW _ _ _ _ (⟨_, Op.nilCheck _, _, _, _, none⟩ :: _) _ _; refine SW.st (st_nilCheck rfl) rfl ?_)
            | (show SW _ _ _ _ (⟨_, Op.build _ _, _, _, _, none⟩ :: _) _ _; refine SW.st (st_build rfl rfl) rfl ?_)
            | (show SW _ _ _ _ (⟨_, Op.binOp _ _ _ _ _, _, _, _, none⟩ :: _) _ _; first | refine SW.st (st_add rfl rfl (by omega) (by omega)) rfl ?_ | refine SW.st (st_sub rfl rfl (by omega) (by omega)) rfl ?_ | refine SW.st (st_mul rfl rfl (by omega) (by omega)) rfl ?_ | refine SW.st (st_quo rfl rfl (by omega) (by omega) (by omega)) rfl ?_ | refine SW.st (st_rem rfl rfl (by omega)) rfl ?_)
            | (show SW _ _ _ _ (⟨_, Op.indexAddr _ _ _, _, _, _, none⟩ :: _) _ _; refine SW.st (st_indexN rfl rfl (by assumption) (by omega)) rfl ?_)
            | (show SW _ _ _ _ (⟨_, Op.call ⟨.builtin .len, _, _⟩, _, _, _, none⟩ :: _) _ _; refine SW.st (st_len rfl) rfl ?_)
            | (show SW _ _ _ _ (⟨_, Op.call ⟨.builtin .cap, _, _⟩, _, _, _, none⟩ :: _) _ _; refine SW.st (st_cap rfl) rfl ?_)
            | (show SW _ _ _ _ (⟨_, Op.load _ _, _, _, _, none⟩ :: _) _ _; first | refine SW.st (st_load rfl (hB.cell rfl)) rfl ?_ | refine SW.st (st_loadx hw rfl (hB.cell rfl)) rfl ?_))
          first
            | refine SW.call rfl rfl (regionsCopy_ans _ _ _ _ _ (hx.ext hw) hn) fun v w6 hw6 hv => ?_
            | refine SW.call rfl rfl (regionsCopy_ans _ _ _ _ _ (hy.ext hw) hm) fun v w6 hw6 hv => ?_
          obtain ⟨K, cK, rfl, hK⟩ := hv
          replace hK := hK.low hw.size
          replace hw := Ext.trans hw hw6
          replace hJ := hJ.ext hw6
          replace hB8 := hB8.ext hw6
          repeat' (first
            | (show CW _ _ _ _ _ _; first | refine CW.seq ?_ | refine CW.region ?_ | refine CW.block ?_ | refine CW.condtr rfl (by with_reducible rfl) ?_ | refine CW.condfr rfl (by with_reducible rfl) ?_ | refine CW.condd_t rfl (by omega) ?_ | refine CW.condd_f rfl (by omega) ?_ | refine CW.condn_t rfl (by omega) ?_ | refine CW.condn_f rfl (by omega) ?_ | refine CW.condd rfl (fun h => ?_) (fun h => ?_) | refine CW.condn rfl (fun h => ?_) (fun h => ?_) | refine CW.condt rfl ?_ | refine CW.condf rfl ?_ | refine CW.cond rfl (fun h => ?_) (fun h => ?_) | refine CW.skip ?_ | refine CW.ret ?_ | refine CW.exit ?_)
            | (show Post _ _ _ _ _; first | refine Post.seq ?_ | refine Post.seq_ret ?_ | refine Post.seq_exit ?_ | refine Post.hit ?_ | refine Post.pass rfl ?_ | refine Post.blk ?_ | refine Post.blk_ret ?_ | refine Post.again_exit ?_ | refine Post.again_ret ?_ | refine Post.np ?_)
            | refine SW.nil ?_
            | (show SW _ _ _ _ (⟨_, _, _, _, _, some _⟩ :: _) _ _; first | refine SW.want_t rfl rfl (by with_reducible rfl) ?_ | refine SW.want_f rfl rfl (by with_reducible rfl) ?_ | refine SW.skip_t rfl rfl (by with_reducible rfl) rfl ?_ | refine SW.skip_f rfl rfl (by with_reducible rfl) rfl ?_ | refine SW.skip_u rfl rfl (by with_reducible rfl) rfl ?_ | refine SW.splitd_t rfl rfl rfl (by omega) ?_ | refine SW.splitd_f rfl rfl rfl (by omega) ?_ | refine SW.splitn_t rfl rfl rfl (by omega) ?_ | refine SW.splitn_f rfl rfl rfl (by omega) ?_ | refine SW.splitd rfl rfl rfl (fun h => ?_) (fun h => ?_) | refine SW.splitn rfl rfl rfl (fun h => ?_) (fun h => ?_) | refine SW.want rfl rfl ?_ | refine SW.skip rfl rfl rfl rfl ?_ | refine SW.skipu rfl rfl rfl ?_ | refine SW.split rfl rfl rfl (fun h => ?_) (fun h => ?_))
            | refine SW.pure rfl rfl ?_
            | (show SW _ _ _ _ (⟨_, Op.fieldAddr _ _ _, _, _, _, none⟩ :: _) _ _; refine SW.st (st_field rfl) rfl ?_)
            | (show SW _ _ _ _ (⟨_, Op.nilCheck _, _, _, _, none⟩ :: _) _ _; refine SW.st (st_nilCheck rfl) rfl ?_)
            | (show SW _ _ _ _ (⟨_, Op.build _ _, _, _, _, none⟩ :: _) _ _; refine SW.st (st_build rfl rfl) rfl ?_)
            | (show SW _ _ _ _ (⟨_, Op.binOp _ _ _ _ _, _, _, _, none⟩ :: _) _ _; first | refine SW.st (st_add rfl rfl (by omega) (by omega)) rfl ?_ | refine SW.st (st_sub rfl rfl (by omega) (by omega)) rfl ?_ | refine SW.st (st_mul rfl rfl (by omega) (by omega)) rfl ?_ | refine SW.st (st_quo rfl rfl (by omega) (by omega) (by omega)) rfl ?_ | refine SW.st (st_rem rfl rfl (by omega)) rfl ?_)
            | (show SW _ _ _ _ (⟨_, Op.indexAddr _ _ _, _, _, _, none⟩ :: _) _ _; refine SW.st (st_indexN rfl rfl (by assumption) (by omega)) rfl ?_)
            | (show SW _ _ _ _ (⟨_, Op.call ⟨.builtin .len, _, _⟩, _, _, _, none⟩ :: _) _ _; refine SW.st (st_len rfl) rfl ?_)
            | (show SW _ _ _ _ (⟨_, Op.call ⟨.builtin .cap, _, _⟩, _, _, _, none⟩ :: _) _ _; refine SW.st (st_cap rfl) rfl ?_))
          refine SW.storeAgg hB8 rfl rfl rfl rfl (one_boot _ _ _ _ _ _) fun w5 hR2 hg => ?_
          replace hw := hw.own hb8w hg
          replace hK := hK.grown hg (.inr (hK.ne_blk hB8 rfl))
          replace hJ := hJ.grown hg (.inr (hJ.ne_blk hB8 rfl))
          repeat' (first
            | (show CW _ _ _ _ _ _; first | refine CW.seq ?_ | refine CW.region ?_ | refine CW.block ?_ | refine CW.condtr rfl (by with_reducible rfl) ?_ | refine CW.condfr rfl (by with_reducible rfl) ?_ | refine CW.condd_t rfl (by omega) ?_ | refine CW.condd_f rfl (by omega) ?_ | refine CW.condn_t rfl (by omega) ?_ | refine CW.condn_f rfl (by omega) ?_ | refine CW.condd rfl (fun h => ?_) (fun h => ?_) | refine CW.condn rfl (fun h => ?_) (fun h => ?_) | refine CW.condt rfl ?_ | refine CW.condf rfl ?_ | refine CW.cond rfl (fun h => ?_) (fun h => ?_) | refine CW.skip ?_ | refine CW.ret ?_ | refine CW.exit ?_)
            | (show Post _ _ _ _ _; first | refine Post.seq ?_ | refine Post.seq_ret ?_ | refine Post.seq_exit ?_ | refine Post.hit ?_ | refine Post.pass rfl ?_ | refine Post.blk ?_ | refine Post.blk_ret ?_ | refine Post.again_exit ?_ | refine Post.again_ret ?_ | refine Post.np ?_)
            | refine SW.nil ?_
            | (show SW _ _ _ _ (⟨_, _, _, _, _, some _⟩ :: _) _ _; first | refine SW.want_t rfl rfl (by with_reducible rfl) ?_ | refine SW.want_f rfl rfl (by with_reducible rfl) ?_ | refine SW.skip_t rfl rfl (by with_reducible rfl) rfl ?_ | refine SW.skip_f rfl rfl (by with_reducible rfl) rfl ?_ | refine SW.skip_u rfl rfl (by with_reducible rfl) rfl ?_ | refine SW.splitd_t rfl rfl rfl (by omega) ?_ | refine SW.splitd_f rfl rfl rfl (by omega) ?_ | refine SW.splitn_t rfl rfl rfl (by omega) ?_ | refine SW.splitn_f rfl rfl rfl (by omega) ?_ | refine SW.splitd rfl rfl rfl (fun h => ?_) (fun h => ?_) | refine SW.splitn rfl rfl rfl (fun h => ?_) (fun h => ?_) | refine SW.want rfl rfl ?_ | refine SW.skip rfl rfl rfl rfl ?_ | refine SW.skipu rfl rfl rfl ?_ | refine SW.split rfl rfl rfl (fun h => ?_) (fun h => ?_))
            | refine SW.pure rfl rfl ?_
            | (show SW _ _ _ _ (⟨_, Op.fieldAddr _ _ _, _, _, _, none⟩ :: _) _ _; refine SW.st (st_field rfl) rfl ?_)
            | (show SW _ _ _ _ (⟨_, Op.nilCheck _, _, _, _, none⟩ :: _) _ _; refine SW.st (st_nilCheck rfl) rfl ?_)
            | (show SW _ _ _ _ (⟨_, Op.build _ _, _, _, _, none⟩ :: _) _ _; refine SW.st (st_build rfl rfl) rfl ?_)
            | (show SW _ _ _ _ (⟨_, Op.binOp _ _ _ _ _, _, _, _, none⟩ :: _) _ _; first | refine SW.st (st_add rfl rfl (by omega) (by omega)) rfl ?_ | refine SW.st (st_sub rfl rfl (by omega) (by omega)) rfl ?_ | refine SW.st (st_mul rfl rfl (by omega) (by omega)) rfl ?_ | refine SW.st (st_quo rfl rfl (by omega) (by omega) (by omega)) rfl ?_ | refine SW.st (st_rem rfl rfl (by omega)) rfl ?_)
            | (show SW _ _ _ _ (⟨_, Op.indexAddr _ _ _, _, _, _, none⟩ :: _) _ _; refine SW.st (st_indexN rfl rfl (by assumption) (by omega)) rfl ?_)
            | (show SW _ _ _ _ (⟨_, Op.call ⟨.builtin .len, _, _⟩, _, _, _, none⟩ :: _) _ _; refine SW.st (st_len rfl) rfl ?_)
            | (show SW _ _ _ _ (⟨_, Op.call ⟨.builtin .cap, _, _⟩, _, _, _, none⟩ :: _) _ _; refine SW.st (st_cap rfl) rfl ?_))
          exact Post.ret2c rfl rfl rfl hR2 rfl ⟨_, rfl, hw, _, rfl, _, _, _, _, _, _, rfl, by assumption, by assumption⟩
      · repeat' (first
          | (show CW _ _ _ _ _ _; first | refine CW.seq ?_ | refine CW.region ?_ | refine CW.block ?_ | refine CW.condtr rfl (by with_reducible rfl) ?_ | refine CW.condfr rfl (by with_reducible rfl) ?_ | refine CW.condd_t rfl (by omega) ?_ | refine CW.condd_f rfl (by omega) ?_ | refine CW.condn_t rfl (by omega) ?_ | refine CW.condn_f rfl (by omega) ?_ | refine CW.condd rfl (fun h => ?_) (fun h => ?_) | refine CW.condn rfl (fun h => ?_) (fun h => ?_) | refine CW.condt rfl ?_ | refine CW.condf rfl ?_ | refine CW.cond rfl (fun h => ?_) (fun h => ?_) | refine CW.skip ?_ | refine CW.ret ?_ | refine CW.exit ?_)
          | (show Post _ _ _ _ _; first | refine Post.seq ?_ | refine Post.seq_ret ?_ | refine Post.seq_exit ?_ | refine Post.hit ?_ | refine Post.pass rfl ?_ | refine Post.blk ?_ | refine Post.blk_ret ?_ | refine Post.again_exit ?_ | refine Post.again_ret ?_ | refine Post.np ?_)
          | refine SW.nil ?_
          | (show SW _ _ _ _ (⟨_, _, _, _, _, some _⟩ :: _) _ _; first | refine SW.want_t rfl rfl (by with_reducible rfl) ?_ | refine SW.want_f rfl rfl (by with_reducible rfl) ?_ | refine SW.skip_t rfl rfl (by with_reducible rfl) rfl ?_ | refine SW.skip_f rfl rfl (by with_reducible rfl) rfl ?_ | refine SW.skip_u rfl rfl (by with_reducible rfl) rfl ?_ | refine SW.splitd_t rfl rfl rfl (by omega) ?_ | refine SW.splitd_f rfl rfl rfl (by omega) ?_ | refine SW.splitn_t rfl rfl rfl (by omega) ?_ | refine SW.splitn_f rfl rfl rfl (by omega) ?_ | refine SW.splitd rfl rfl rfl (fun h => ?_) (fun h => ?_) | refine SW.splitn rfl rfl rfl (fun h => ?_) (fun h => ?_) | refine SW.want rfl rfl ?_ | refine SW.skip rfl rfl rfl rfl ?_ | refine SW.skipu rfl rfl rfl ?_ | refine SW.split rfl rfl rfl (fun h => ?_) (fun h => ?_))
          | refine SW.pure rfl rfl ?_
          | (show SW _ _ _ _ (⟨_, Op.fieldAddr _ _ _, _, _, _, none⟩ :: _) _ _; refine SW.st (st_field rfl) rfl ?_)
          | (show SW _ _ _ _ (⟨_, Op.nilCheck _, _, _, _, none⟩ :: _) _ _; refine SW.st (st_nilCheck rfl) rfl ?_)
          | (show SW _ _ _ _ (⟨_, Op.build _ _, _, _, _, none⟩ :: _) _ _; refine SW.st (st_build rfl rfl) rfl ?_)
          | (show SW _ _ _ _ (⟨_, Op.binOp _ _ _ _ _, _, _, _, none⟩ :: _) _ _; first | refine SW.st (st_add rfl rfl (by omega) (by omega)) rfl ?_ | refine SW.st (st_sub rfl rfl (by omega) (by omega)) rfl ?_ | refine SW.st (st_mul rfl rfl (by omega) (by omega)) rfl ?_ | refine SW.st (st_quo rfl rfl (by omega) (by omega) (by omega)) rfl ?_ | refine SW.st (st_rem rfl rfl (by omega)) rfl ?_)
          | (show SW _ _ _ _ (⟨_, Op.indexAddr _ _ _, _, _, _, none⟩ :: _) _ _; refine SW.st (st_indexN rfl rfl (by assumption) (by omega)) rfl ?_)
          | (show SW _ _ _ _ (⟨_, Op.call ⟨.builtin .len, _, _⟩, _, _, _, none⟩ :: _) _ _; refine SW.st (st_len rfl) rfl ?_)
          | (show SW _ _ _ _ (⟨_, Op.call ⟨.builtin .cap, _, _⟩, _, _, _, none⟩ :: _) _ _; refine SW.st (st_cap rfl) rfl ?_)
          | (show SW _ _ _ _ (⟨_, Op.load _ _, _, _, _, none⟩ :: _) _ _; first | refine SW.st (st_load rfl (hB.cell rfl)) rfl ?_ | refine SW.st (st_loadx hw rfl (hB.cell rfl)) rfl ?_))
        try
          refine SW.storeB (i := 0) hB11 rfl rfl rfl rfl fun w4 hB11' hg => ?_
          replace hB11 := hB11'
          clear hB11'
          replace hw := hw.own hb11w hg
          replace hB := hB.grown hg (by simpa using hneb)
          replace hB5 := hB5.grown hg (by simpa using hne5)
          replace hB7 := hB7.grown hg (by simpa using hne7)
          replace hB8 := hB8.grown hg (by simpa using hne8)
          repeat' (first
            | (show CW _ _ _ _ _ _; first | refine CW.seq ?_ | refine CW.region ?_ | refine CW.block ?_ | refine CW.condtr rfl (by with_reducible rfl) ?_ | refine CW.condfr rfl (by with_reducible rfl) ?_ | refine CW.condd_t rfl (by omega) ?_ | refine CW.condd_f rfl (by omega) ?_ | refine CW.condn_t rfl (by omega) ?_ | refine CW.condn_f rfl (by omega) ?_ | refine CW.condd rfl (fun h => ?_) (fun h => ?_) | refine CW.condn rfl (fun h => ?_) (fun h => ?_) | refine CW.condt rfl ?_ | refine CW.condf rfl ?_ | refine CW.cond rfl (fun h => ?_) (fun h => ?_) | refine CW.skip ?_ | refine CW.ret ?_ | refine CW.exit ?_)
            | (show Post _ _ _ _ _; first | refine Post.seq ?_ | refine Post.seq_ret ?_ | refine Post.seq_exit ?_ | refine Post.hit ?_ | refine Post.pass rfl ?_ | refine Post.blk ?_ | refine Post.blk_ret ?_ | refine Post.again_exit ?_ | refine Post.again_ret ?_ | refine Post.np ?_)
            | refine SW.nil ?_
            | (show SW _ _ _ _ (⟨_, _, _, _, _, some _⟩ :: _) _ _; first | refine SW.want_t rfl rfl (by with_reducible rfl) ?_ | refine SW.want_f rfl rfl (by with_reducible rfl) ?_ | refine SW.skip_t rfl rfl (by with_reducible rfl) rfl ?_ | refine SW.skip_f rfl rfl (by with_reducible rfl) rfl ?_ | refine SW.skip_u rfl rfl (by with_reducible rfl) rfl ?_ | refine SW.splitd_t rfl rfl rfl (by omega) ?_ | refine SW.splitd_f rfl rfl rfl (by omega) ?_ | refine SW.splitn_t rfl rfl rfl (by omega) ?_ | refine SW.splitn_f rfl rfl rfl (by omega) ?_ | refine SW.splitd rfl rfl rfl (fun h => ?_) (fun h => ?_) | refine SW.splitn rfl rfl rfl (fun h => ?_) (fun h => ?_) | refine SW.want rfl rfl ?_ | refine SW.skip rfl rfl rfl rfl ?_ | refine SW.skipu rfl rfl rfl ?_ | refine SW.split rfl rfl rfl (fun h => ?_) (fun h => ?_))
            | refine SW.pure rfl rfl ?_
            | (show SW _ _ _ _ (⟨_, Op.fieldAddr _ _ _, _, _, _, none⟩ :: _) _ _; refine SW.st (st_field rfl) rfl ?_)
            | (show SW _ _ _ _ (⟨_, Op.nilCheck _, _, _, _, none⟩ :: _) _ _; refine SW.st (st_nilCheck rfl) rfl ?_)
            | (show SW _ _ _ _ (⟨_, Op.build _ _, _, _, _, none⟩ :: _) _ _; refine SW.st (st_build rfl rfl) rfl ?_)
            | (show SW _ _ _ _ (⟨_, Op.binOp _ _ _ _ _, _, _, _, none⟩ :: _) _ _; first | refine SW.st (st_add rfl rfl (by omega) (by omega)) rfl ?_ | refine SW.st (st_sub rfl rfl (by omega) (by omega)) rfl ?_ | refine SW.st (st_mul rfl rfl (by omega) (by omega)) rfl ?_ | refine SW.st (st_quo rfl rfl (by omega) (by omega) (by omega)) rfl ?_ | refine SW.st (st_rem rfl rfl (by omega)) rfl ?_)
            | (show SW _ _ _ _ (⟨_, Op.indexAddr _ _ _, _, _, _, none⟩ :: _) _ _; refine SW.st (st_indexN rfl rfl (by assumption) (by omega)) rfl ?_)
            | (show SW _ _ _ _ (⟨_, Op.call ⟨.builtin .len, _, _⟩, _, _, _, none⟩ :: _) _ _; refine SW.st (st_len rfl) rfl ?_)
            | (show SW _ _ _ _ (⟨_, Op.call ⟨.builtin .cap, _, _⟩, _, _, _, none⟩ :: _) _ _; refine SW.st (st_cap rfl) rfl ?_))
        refine SW.st (st_func (vs := [.pointer (some ⟨b5, 0, none⟩), .pointer (some ⟨b7, 0, none⟩), .pointer (some ⟨b11, 0, none⟩)]) rfl) rfl ?_
        have hF : ∀ w0, Ext w w0 → Blk w0 b5 54 (encR r) → Blk w0 b7 4 [.bool wth] → Blk w0 b11 46 [.slice B m d] → ∀ (z : Int) (w' : World), 0 ≤ z → z < 256 → Ext w0 w' →
            Ans Try.prog 93 ([.int .i64 z] ++ [.pointer (some ⟨b5, 0, none⟩), .pointer (some ⟨b7, 0, none⟩), .pointer (some ⟨b11, 0, none⟩)]) w' fun u _ => u = .bool (withReg (if true then y else x) r wth z.toNat) := fun w0 h0 h5 h7 h11 z w' h1 h2 h3 =>
          changedC_ans _ _ _ _ r wth z b5 b7 b11 w' (h5.ext h3) (h7.ext h3) (h11.ext h3) (hy.ext (h0.trans h3)) hyo hr (by omega) h1
        refine SW.call rfl rfl (drawn_ans 93 _ N hN _ _ (hF _ hw hB5 hB7 hB11)) fun v w2 hw2 hv => ?_
        obtain ⟨J, cJ, rfl, hJ⟩ := hv
        replace hJ := hJ.low hw.size
        replace hw := Ext.trans hw hw2
        replace hB := hB.ext hw2
        replace hB8 := hB8.ext hw2
        by_cases h40 : 40 < (runs (withReg (if true then y else x) r wth) N).length
        · rw [changeV_9 hq hr h40]
          repeat' (first
            | (show CW _ _ _ _ _ _; first | refine CW.seq ?_ | refine CW.region ?_ | refine CW.block ?_ | refine CW.condtr rfl (by with_reducible rfl) ?_ | refine CW.condfr rfl (by with_reducible rfl) ?_ | refine CW.condd_t rfl (by omega) ?_ | refine CW.condd_f rfl (by omega) ?_ | refine CW.condn_t rfl (by omega) ?_ | refine CW.condn_f rfl (by omega) ?_ | refine CW.condd rfl (fun h => ?_) (fun h => ?_) | refine CW.condn rfl (fun h => ?_) (fun h => ?_) | refine CW.condt rfl ?_ | refine CW.condf rfl ?_ | refine CW.cond rfl (fun h => ?_) (fun h => ?_) | refine CW.skip ?_ | refine CW.ret ?_ | refine CW.exit ?_)
            | (show Post _ _ _ _ _; first | refine Post.seq ?_ | refine Post.seq_ret ?_ | refine Post.seq_exit ?_ | refine Post.hit ?_ | refine Post.pass rfl ?_ | refine Post.blk ?_ | refine Post.blk_ret ?_ | refine Post.again_exit ?_ | refine Post.again_ret ?_ | refine Post.np ?_)
            | refine SW.nil ?_
            | (show SW _ _ _ _ (⟨_, _, _, _, _, some _⟩ :: _) _ _; first | refine SW.want_t rfl rfl (by with_reducible rfl) ?_ | refine SW.want_f rfl rfl (by with_reducible rfl) ?_ | refine SW.skip_t rfl rfl (by with_reducible rfl) rfl ?_ | refine SW.skip_f rfl rfl (by with_reducible rfl) rfl ?_ | refine SW.skip_u rfl rfl (by with_reducible rfl) rfl ?_ | refine SW.splitd_t rfl rfl rfl (by omega) ?_ | refine SW.splitd_f rfl rfl rfl (by omega) ?_ | refine SW.splitn_t rfl rfl rfl (by omega) ?_ | refine SW.splitn_f rfl rfl rfl (by omega) ?_ | refine SW.splitd rfl rfl rfl (fun h => ?_) (fun h => ?_) | refine SW.splitn rfl rfl rfl (fun h => ?_) (fun h => ?_) | refine SW.want rfl rfl ?_ | refine SW.skip rfl rfl rfl rfl ?_ | refine SW.skipu rfl rfl rfl ?_ | refine SW.split rfl rfl rfl (fun h => ?_) (fun h => ?_))
            | refine SW.pure rfl rfl ?_
            | (show SW _ _ _ _ (⟨_, Op.fieldAddr _ _ _, _, _, _, none⟩ :: _) _ _; refine SW.st (st_field rfl) rfl ?_)
            | (show SW _ _ _ _ (⟨_, Op.nilCheck _, _, _, _, none⟩ :: _) _ _; refine SW.st (st_nilCheck rfl) rfl ?_)
            | (show SW _ _ _ _ (⟨_, Op.build _ _, _, _, _, none⟩ :: _) _ _; refine SW.st (st_build rfl rfl) rfl ?_)
            | (show SW _ _ _ _ (⟨_, Op.binOp _ _ _ _ _, _, _, _, none⟩ :: _) _ _; first | refine SW.st (st_add rfl rfl (by omega) (by omega)) rfl ?_ | refine SW.st (st_sub rfl rfl (by omega) (by omega)) rfl ?_ | refine SW.st (st_mul rfl rfl (by omega) (by omega)) rfl ?_ | refine SW.st (st_quo rfl rfl (by omega) (by omega) (by omega)) rfl ?_ | refine SW.st (st_rem rfl rfl (by omega)) rfl ?_)
            | (show SW _ _ _ _ (⟨_, Op.indexAddr _ _ _, _, _, _, none⟩ :: _) _ _; refine SW.st (st_indexN rfl rfl (by assumption) (by omega)) rfl ?_)
            | (show SW _ _ _ _ (⟨_, Op.call ⟨.builtin .len, _, _⟩, _, _, _, none⟩ :: _) _ _; refine SW.st (st_len rfl) rfl ?_)
            | (show SW _ _ _ _ (⟨_, Op.call ⟨.builtin .cap, _, _⟩, _, _, _, none⟩ :: _) _ _; refine SW.st (st_cap rfl) rfl ?_))
          refine SW.storeAgg hB8 rfl rfl rfl rfl (one_boot none 0 0 none 0 0) fun w5 hR2 hg => ?_
          replace hw := hw.own hb8w hg
          repeat' (first
            | (show CW _ _ _ _ _ _; first | refine CW.seq ?_ | refine CW.region ?_ | refine CW.block ?_ | refine CW.condtr rfl (by with_reducible rfl) ?_ | refine CW.condfr rfl (by with_reducible rfl) ?_ | refine CW.condd_t rfl (by omega) ?_ | refine CW.condd_f rfl (by omega) ?_ | refine CW.condn_t rfl (by omega) ?_ | refine CW.condn_f rfl (by omega) ?_ | refine CW.condd rfl (fun h => ?_) (fun h => ?_) | refine CW.condn rfl (fun h => ?_) (fun h => ?_) | refine CW.condt rfl ?_ | refine CW.condf rfl ?_ | refine CW.cond rfl (fun h => ?_) (fun h => ?_) | refine CW.skip ?_ | refine CW.ret ?_ | refine CW.exit ?_)
            | (show Post _ _ _ _ _; first | refine Post.seq ?_ | refine Post.seq_ret ?_ | refine Post.seq_exit ?_ | refine Post.hit ?_ | refine Post.pass rfl ?_ | refine Post.blk ?_ | refine Post.blk_ret ?_ | refine Post.again_exit ?_ | refine Post.again_ret ?_ | refine Post.np ?_)
            | refine SW.nil ?_
            | (show SW _ _ _ _ (⟨_, _, _, _, _, some _⟩ :: _) _ _; first | refine SW.want_t rfl rfl (by with_reducible rfl) ?_ | refine SW.want_f rfl rfl (by with_reducible rfl) ?_ | refine SW.skip_t rfl rfl (by with_reducible rfl) rfl ?_ | refine SW.skip_f rfl rfl (by with_reducible rfl) rfl ?_ | refine SW.skip_u rfl rfl (by with_reducible rfl) rfl ?_ | refine SW.splitd_t rfl rfl rfl (by omega) ?_ | refine SW.splitd_f rfl rfl rfl (by omega) ?_ | refine SW.splitn_t rfl rfl rfl (by omega) ?_ | refine SW.splitn_f rfl rfl rfl (by omega) ?_ | refine SW.splitd rfl rfl rfl (fun h => ?_) (fun h => ?_) | refine SW.splitn rfl rfl rfl (fun h => ?_) (fun h => ?_) | refine SW.want rfl rfl ?_ | refine SW.skip rfl rfl rfl rfl ?_ | refine SW.skipu rfl rfl rfl ?_ | refine SW.split rfl rfl rfl (fun h => ?_) (fun h => ?_))
            | refine SW.pure rfl rfl ?_
            | (show SW _ _ _ _ (⟨_, Op.fieldAddr _ _ _, _, _, _, none⟩ :: _) _ _; refine SW.st (st_field rfl) rfl ?_)
            | (show SW _ _ _ _ (⟨_, Op.nilCheck _, _, _, _, none⟩ :: _) _ _; refine SW.st (st_nilCheck rfl) rfl ?_)
            | (show SW _ _ _ _ (⟨_, Op.build _ _, _, _, _, none⟩ :: _) _ _; refine SW.st (st_build rfl rfl) rfl ?_)
            | (show SW _ _ _ _ (⟨_, Op.binOp _ _ _ _ _, _, _, _, none⟩ :: _) _ _; first | refine SW.st (st_add rfl rfl (by omega) (by omega)) rfl ?_ | refine SW.st (st_sub rfl rfl (by omega) (by omega)) rfl ?_ | refine SW.st (st_mul rfl rfl (by omega) (by omega)) rfl ?_ | refine SW.st (st_quo rfl rfl (by omega) (by omega) (by omega)) rfl ?_ | refine SW.st (st_rem rfl rfl (by omega)) rfl ?_)
            | (show SW _ _ _ _ (⟨_, Op.indexAddr _ _ _, _, _, _, none⟩ :: _) _ _; refine SW.st (st_indexN rfl rfl (by assumption) (by omega)) rfl ?_)
            | (show SW _ _ _ _ (⟨_, Op.call ⟨.builtin .len, _, _⟩, _, _, _, none⟩ :: _) _ _; refine SW.st (st_len rfl) rfl ?_)
            | (show SW _ _ _ _ (⟨_, Op.call ⟨.builtin .cap, _, _⟩, _, _, _, none⟩ :: _) _ _; refine SW.st (st_cap rfl) rfl ?_))
          exact Post.ret2c rfl rfl rfl hR2 rfl ⟨_, rfl, hw, _, rfl, BootIs.nil _ _⟩
        · rw [changeV_0 hq hr h40]
          repeat' (first
            | (show CW _ _ _ _ _ _; first | refine CW.seq ?_ | refine CW.region ?_ | refine CW.block ?_ | refine CW.condtr rfl (by with_reducible rfl) ?_ | refine CW.condfr rfl (by with_reducible rfl) ?_ | refine CW.condd_t rfl (by omega) ?_ | refine CW.condd_f rfl (by omega) ?_ | refine CW.condn_t rfl (by omega) ?_ | refine CW.condn_f rfl (by omega) ?_ | refine CW.condd rfl (fun h => ?_) (fun h => ?_) | refine CW.condn rfl (fun h => ?_) (fun h => ?_) | refine CW.condt rfl ?_ | refine CW.condf rfl ?_ | refine CW.cond rfl (fun h => ?_) (fun h => ?_) | refine CW.skip ?_ | refine CW.ret ?_ | refine CW.exit ?_)
            | (show Post _ _ _ _ _; first | refine Post.seq ?_ | refine Post.seq_ret ?_ | refine Post.seq_exit ?_ | refine Post.hit ?_ | refine Post.pass rfl ?_ | refine Post.blk ?_ | refine Post.blk_ret ?_ | refine Post.again_exit ?_ | refine Post.again_ret ?_ | refine Post.np ?_)
            | refine SW.nil ?_
            | (show SW _ _ _ _ (⟨_, _, _, _, _, some _⟩ :: _) _ _; first | refine SW.want_t rfl rfl (by with_reducible rfl) ?_ | refine SW.want_f rfl rfl (by with_reducible rfl) ?_ | refine SW.skip_t rfl rfl (by with_reducible rfl) rfl ?_ | refine SW.skip_f rfl rfl (by with_reducible rfl) rfl ?_ | refine SW.skip_u rfl rfl (by with_reducible rfl) rfl ?_ | refine SW.splitd_t rfl rfl rfl (by omega) ?_ | refine SW.splitd_f rfl rfl rfl (by omega) ?_ | refine SW.splitn_t rfl rfl rfl (by omega) ?_ | refine SW.splitn_f rfl rfl rfl (by omega) ?_ | refine SW.splitd rfl rfl rfl (fun h => ?_) (fun h => ?_) | refine SW.splitn rfl rfl rfl (fun h => ?_) (fun h => ?_) | refine SW.want rfl rfl ?_ | refine SW.skip rfl rfl rfl rfl ?_ | refine SW.skipu rfl rfl rfl ?_ | refine SW.split rfl rfl rfl (fun h => ?_) (fun h => ?_))
            | refine SW.pure rfl rfl ?_
            | (show SW _ _ _ _ (⟨_, Op.fieldAddr _ _ _, _, _, _, none⟩ :: _) _ _; refine SW.st (st_field rfl) rfl ?_)
            | (show SW _ _ _ _ (⟨_, Op.nilCheck _, _, _, _, none⟩ :: _) _ _; refine SW.st (st_nilCheck rfl) rfl ?_)
            | (show SW _ _ _ _ (⟨_, Op.build _ _, _, _, _, none⟩ :: _) _ _; refine SW.st (st_build rfl rfl) rfl ?_)
            | (show SW _ _ _ _ (⟨_, Op.binOp _ _ _ _ _, _, _, _, none⟩ :: _) _ _; first | refine SW.st (st_add rfl rfl (by omega) (by omega)) rfl ?_ | refine SW.st (st_sub rfl rfl (by omega) (by omega)) rfl ?_ | refine SW.st (st_mul rfl rfl (by omega) (by omega)) rfl ?_ | refine SW.st (st_quo rfl rfl (by omega) (by omega) (by omega)) rfl ?_ | refine SW.st (st_rem rfl rfl (by omega)) rfl ?_)
            | (show SW _ _ _ _ (⟨_, Op.indexAddr _ _ _, _, _, _, none⟩ :: _) _ _; refine SW.st (st_indexN rfl rfl (by assumption) (by omega)) rfl ?_)
            | (show SW _ _ _ _ (⟨_, Op.call ⟨.builtin .len, _, _⟩, _, _, _, none⟩ :: _) _ _; refine SW.st (st_len rfl) rfl ?_)
            | (show SW _ _ _ _ (⟨_, Op.call ⟨.builtin .cap, _, _⟩, _, _, _, none⟩ :: _) _ _; refine SW.st (st_cap rfl) rfl ?_)
            | (show SW _ _ _ _ (⟨_, Op.load _ _, _, _, _, none⟩ :: _) _ _; first | refine SW.st (st_load rfl (hB.cell rfl)) rfl ?_ | refine SW.st (st_loadx hw rfl (hB.cell rfl)) rfl ?_))
          first
            | refine SW.call rfl rfl (regionsCopy_ans _ _ _ _ _ (hx.ext hw) hn) fun v w6 hw6 hv => ?_
            | refine SW.call rfl rfl (regionsCopy_ans _ _ _ _ _ (hy.ext hw) hm) fun v w6 hw6 hv => ?_
          obtain ⟨K, cK, rfl, hK⟩ := hv
          replace hK := hK.low hw.size
          replace hw := Ext.trans hw hw6
          replace hJ := hJ.ext hw6
          replace hB8 := hB8.ext hw6
          repeat' (first
            | (show CW _ _ _ _ _ _; first | refine CW.seq ?_ | refine CW.region ?_ | refine CW.block ?_ | refine CW.condtr rfl (by with_reducible rfl) ?_ | refine CW.condfr rfl (by with_reducible rfl) ?_ | refine CW.condd_t rfl (by omega) ?_ | refine CW.condd_f rfl (by omega) ?_ | refine CW.condn_t rfl (by omega) ?_ | refine CW.condn_f rfl (by omega) ?_ | refine CW.condd rfl (fun h => ?_) (fun h => ?_) | refine CW.condn rfl (fun h => ?_) (fun h => ?_) | refine CW.condt rfl ?_ | refine CW.condf rfl ?_ | refine CW.cond rfl (fun h => ?_) (fun h => ?_) | refine CW.skip ?_ | refine CW.ret ?_ | refine CW.exit ?_)
            | (show Post _ _ _ _ _; first | refine Post.seq ?_ | refine Post.seq_ret ?_ | refine Post.seq_exit ?_ | refine Post.hit ?_ | refine Post.pass rfl ?_ | refine Post.blk ?_ | refine Post.blk_ret ?_ | refine Post.again_exit ?_ | refine Post.again_ret ?_ | refine Post.np ?_)
            | refine SW.nil ?_
            | (show SW _ _ _ _ (⟨_, _, _, _, _, some _⟩ :: _) _ _; first | refine SW.want_t rfl rfl (by with_reducible rfl) ?_ | refine SW.want_f rfl rfl (by with_reducible rfl) ?_ | refine SW.skip_t rfl rfl (by with_reducible rfl) rfl ?_ | refine SW.skip_f rfl rfl (by with_reducible rfl) rfl ?_ | refine SW.skip_u rfl rfl (by with_reducible rfl) rfl ?_ | refine SW.splitd_t rfl rfl rfl (by omega) ?_ | refine SW.splitd_f rfl rfl rfl (by omega) ?_ | refine SW.splitn_t rfl rfl rfl (by omega) ?_ | refine SW.splitn_f rfl rfl rfl (by omega) ?_ | refine SW.splitd rfl rfl rfl (fun h => ?_) (fun h => ?_) | refine SW.splitn rfl rfl rfl (fun h => ?_) (fun h => ?_) | refine SW.want rfl rfl ?_ | refine SW.skip rfl rfl rfl rfl ?_ | refine SW.skipu rfl rfl rfl ?_ | refine SW.split rfl rfl rfl (fun h => ?_) (fun h => ?_))
            | refine SW.pure rfl rfl ?_
            | (show SW _ _ _ _ (⟨_, Op.fieldAddr _ _ _, _, _, _, none⟩ :: _) _ _; refine SW.st (st_field rfl) rfl ?_)
            | (show SW _ _ _ _ (⟨_, Op.nilCheck _, _, _, _, none⟩ :: _) _ _; refine SW.st (st_nilCheck rfl) rfl ?_)
            | (show SW _ _ _ _ (⟨_, Op.build _ _, _, _, _, none⟩ :: _) _ _; refine SW.st (st_build rfl rfl) rfl ?_)
            | (show SW _ _ _ _ (⟨_, Op.binOp _ _ _ _ _, _, _, _, none⟩ :: _) _ _; first | refine SW.st (st_add rfl rfl (by omega) (by omega)) rfl ?_ | refine SW.st (st_sub rfl rfl (by omega) (by omega)) rfl ?_ | refine SW.st (st_mul rfl rfl (by omega) (by omega)) rfl ?_ | refine SW.st (st_quo rfl rfl (by omega) (by omega) (by omega)) rfl ?_ | refine SW.st (st_rem rfl rfl (by omega)) rfl ?_)
            | (show SW _ _ _ _ (⟨_, Op.indexAddr _ _ _, _, _, _, none⟩ :: _) _ _; refine SW.st (st_indexN rfl rfl (by assumption) (by omega)) rfl ?_)
            | (show SW _ _ _ _ (⟨_, Op.call ⟨.builtin .len, _, _⟩, _, _, _, none⟩ :: _) _ _; refine SW.st (st_len rfl) rfl ?_)
            | (show SW _ _ _ _ (⟨_, Op.call ⟨.builtin .cap, _, _⟩, _, _, _, none⟩ :: _) _ _; refine SW.st (st_cap rfl) rfl ?_))
          refine SW.storeAgg hB8 rfl rfl rfl rfl (one_boot _ _ _ _ _ _) fun w5 hR2 hg => ?_
          replace hw := hw.own hb8w hg
          replace hK := hK.grown hg (.inr (hK.ne_blk hB8 rfl))
          replace hJ := hJ.grown hg (.inr (hJ.ne_blk hB8 rfl))
          repeat' (first
            | (show CW _ _ _ _ _ _; first | refine CW.seq ?_ | refine CW.region ?_ | refine CW.block ?_ | refine CW.condtr rfl (by with_reducible rfl) ?_ | refine CW.condfr rfl (by with_reducible rfl) ?_ | refine CW.condd_t rfl (by omega) ?_ | refine CW.condd_f rfl (by omega) ?_ | refine CW.condn_t rfl (by omega) ?_ | refine CW.condn_f rfl (by omega) ?_ | refine CW.condd rfl (fun h => ?_) (fun h => ?_) | refine CW.condn rfl (fun h => ?_) (fun h => ?_) | refine CW.condt rfl ?_ | refine CW.condf rfl ?_ | refine CW.cond rfl (fun h => ?_) (fun h => ?_) | refine CW.skip ?_ | refine CW.ret ?_ | refine CW.exit ?_)
            | (show Post _ _ _ _ _; first | refine Post.seq ?_ | refine Post.seq_ret ?_ | refine Post.seq_exit ?_ | refine Post.hit ?_ | refine Post.pass rfl ?_ | refine Post.blk ?_ | refine Post.blk_ret ?_ | refine Post.again_exit ?_ | refine Post.again_ret ?_ | refine Post.np ?_)
            | refine SW.nil ?_
            | (show SW _ _ _ _ (⟨_, _, _, _, _, some _⟩ :: _) _ _; first | refine SW.want_t rfl rfl (by with_reducible rfl) ?_ | refine SW.want_f rfl rfl (by with_reducible rfl) ?_ | refine SW.skip_t rfl rfl (by with_reducible rfl) rfl ?_ | refine SW.skip_f rfl rfl (by with_reducible rfl) rfl ?_ | refine SW.skip_u rfl rfl (by with_reducible rfl) rfl ?_ | refine SW.splitd_t rfl rfl rfl (by omega) ?_ | refine SW.splitd_f rfl rfl rfl (by omega) ?_ | refine SW.splitn_t rfl rfl rfl (by omega) ?_ | refine SW.splitn_f rfl rfl rfl (by omega) ?_ | refine SW.splitd rfl rfl rfl (fun h => ?_) (fun h => ?_) | refine SW.splitn rfl rfl rfl (fun h => ?_) (fun h => ?_) | refine SW.want rfl rfl ?_ | refine SW.skip rfl rfl rfl rfl ?_ | refine SW.skipu rfl rfl rfl ?_ | refine SW.split rfl rfl rfl (fun h => ?_) (fun h => ?_))
            | refine SW.pure rfl rfl ?_
            | (show SW _ _ _ _ (⟨_, Op.fieldAddr _ _ _, _, _, _, none⟩ :: _) _ _; refine SW.st (st_field rfl) rfl ?_)
            | (show SW _ _ _ _ (⟨_, Op.nilCheck _, _, _, _, none⟩ :: _) _ _; refine SW.st (st_nilCheck rfl) rfl ?_)
            | (show SW _ _ _ _ (⟨_, Op.build _ _, _, _, _, none⟩ :: _) _ _; refine SW.st (st_build rfl rfl) rfl ?_)
            | (show SW _ _ _ _ (⟨_, Op.binOp _ _ _ _ _, _, _, _, none⟩ :: _) _ _; first | refine SW.st (st_add rfl rfl (by omega) (by omega)) rfl ?_ | refine SW.st (st_sub rfl rfl (by omega) (by omega)) rfl ?_ | refine SW.st (st_mul rfl rfl (by omega) (by omega)) rfl ?_ | refine SW.st (st_quo rfl rfl (by omega) (by omega) (by omega)) rfl ?_ | refine SW.st (st_rem rfl rfl (by omega)) rfl ?_)
            | (show SW _ _ _ _ (⟨_, Op.indexAddr _ _ _, _, _, _, none⟩ :: _) _ _; refine SW.st (st_indexN rfl rfl (by assumption) (by omega)) rfl ?_)
            | (show SW _ _ _ _ (⟨_, Op.call ⟨.builtin .len, _, _⟩, _, _, _, none⟩ :: _) _ _; refine SW.st (st_len rfl) rfl ?_)
            | (show SW _ _ _ _ (⟨_, Op.call ⟨.builtin .cap, _, _⟩, _, _, _, none⟩ :: _) _ _; refine SW.st (st_cap rfl) rfl ?_))
          exact Post.ret2c rfl rfl rfl hR2 rfl ⟨_, rfl, hw, _, rfl, _, _, _, _, _, _, rfl, by assumption, by assumption⟩
    · have c2 : ∀ w', Ext w w' → Ans Try.prog 92 [.agg (encR r).toArray] w' fun v _ => v = .int .i64 1 := fun w' h => RegionFault_no hr w'
      rw [changeV_1 hq hr]
      repeat' (first
        | (show CW _ _ _ _ _ _; first | refine CW.seq ?_ | refine CW.region ?_ | refine CW.block ?_ | refine CW.condtr rfl (by with_reducible rfl) ?_ | refine CW.condfr rfl (by with_reducible rfl) ?_ | refine CW.condd_t rfl (by omega) ?_ | refine CW.condd_f rfl (by omega) ?_ | refine CW.condn_t rfl (by omega) ?_ | refine CW.condn_f rfl (by omega) ?_ | refine CW.condd rfl (fun h => ?_) (fun h => ?_) | refine CW.condn rfl (fun h => ?_) (fun h => ?_) | refine CW.condt rfl ?_ | refine CW.condf rfl ?_ | refine CW.cond rfl (fun h => ?_) (fun h => ?_) | refine CW.skip ?_ | refine CW.ret ?_ | refine CW.exit ?_)
        | (show Post _ _ _ _ _; first | refine Post.seq ?_ | refine Post.seq_ret ?_ | refine Post.seq_exit ?_ | refine Post.hit ?_ | refine Post.pass rfl ?_ | refine Post.blk ?_ | refine Post.blk_ret ?_ | refine Post.again_exit ?_ | refine Post.again_ret ?_ | refine Post.np ?_)
        | refine SW.nil ?_
        | (show SW _ _ _ _ (⟨_, _, _, _, _, some _⟩ :: _) _ _; first | refine SW.want_t rfl rfl (by with_reducible rfl) ?_ | refine SW.want_f rfl rfl (by with_reducible rfl) ?_ | refine SW.skip_t rfl rfl (by with_reducible rfl) rfl ?_ | refine SW.skip_f rfl rfl (by with_reducible rfl) rfl ?_ | refine SW.skip_u rfl rfl (by with_reducible rfl) rfl ?_ | refine SW.splitd_t rfl rfl rfl (by omega) ?_ | refine SW.splitd_f rfl rfl rfl (by omega) ?_ | refine SW.splitn_t rfl rfl rfl (by omega) ?_ | refine SW.splitn_f rfl rfl rfl (by omega) ?_ | refine SW.splitd rfl rfl rfl (fun h => ?_) (fun h => ?_) | refine SW.splitn rfl rfl rfl (fun h => ?_) (fun h => ?_) | refine SW.want rfl rfl ?_ | refine SW.skip rfl rfl rfl rfl ?_ | refine SW.skipu rfl rfl rfl ?_ | refine SW.split rfl rfl rfl (fun h => ?_) (fun h => ?_))
        | refine SW.pure rfl rfl ?_
        | (show SW _ _ _ _ (⟨_, Op.fieldAddr _ _ _, _, _, _, none⟩ :: _) _ _; refine SW.st (st_field rfl) rfl ?_)
        | (show SW _ _ _ _ (⟨_, Op.nilCheck _, _, _, _, none⟩ :: _) _ _; refine SW.st (st_nilCheck rfl) rfl ?_)
        | (show SW _ _ _ _ (⟨_, Op.build _ _, _, _, _, none⟩ :: _) _ _; refine SW.st (st_build rfl rfl) rfl ?_)
        | (show SW _ _ _ _ (⟨_, Op.binOp _ _ _ _ _, _, _, _, none⟩ :: _) _ _; first | refine SW.st (st_add rfl rfl (by omega) (by omega)) rfl ?_ | refine SW.st (st_sub rfl rfl (by omega) (by omega)) rfl ?_ | refine SW.st (st_mul rfl rfl (by omega) (by omega)) rfl ?_ | refine SW.st (st_quo rfl rfl (by omega) (by omega) (by omega)) rfl ?_ | refine SW.st (st_rem rfl rfl (by omega)) rfl ?_)
        | (show SW _ _ _ _ (⟨_, Op.indexAddr _ _ _, _, _, _, none⟩ :: _) _ _; refine SW.st (st_indexN rfl rfl (by assumption) (by omega)) rfl ?_)
        | (show SW _ _ _ _ (⟨_, Op.call ⟨.builtin .len, _, _⟩, _, _, _, none⟩ :: _) _ _; refine SW.st (st_len rfl) rfl ?_)
        | (show SW _ _ _ _ (⟨_, Op.call ⟨.builtin .cap, _, _⟩, _, _, _, none⟩ :: _) _ _; refine SW.st (st_cap rfl) rfl ?_)
        | (show SW _ _ _ _ (⟨_, Op.load _ _, _, _, _, none⟩ :: _) _ _; first | refine SW.st (st_loads rfl rfl ((fun _ _ => hB.cell))) rfl ?_ | refine SW.st (st_loadsx hw rfl rfl ((fun _ _ => hB.cell))) rfl ?_ | refine SW.st (st_loads rfl rfl ((fun _ _ => hB5.cell))) rfl ?_ | refine SW.st (st_loadsx hw rfl rfl ((fun _ _ => hB5.cell))) rfl ?_)
        | (show SW _ _ _ _ (⟨_, Op.call ⟨.value (.func _), _, _⟩, _, _, _, none⟩ :: _) _ _; first | (refine SW.call rfl rfl (c1 _ hw) ?_; intro v w1 hw1 hv; subst hv; replace hw := Ext.trans hw hw1; replace hB := hB.ext hw1; replace hB5 := hB5.ext hw1; replace hB7 := hB7.ext hw1; replace hB8 := hB8.ext hw1; clear hw1) | (refine SW.call rfl rfl (c2 _ hw) ?_; intro v w1 hw1 hv; subst hv; replace hw := Ext.trans hw hw1; replace hB := hB.ext hw1; replace hB5 := hB5.ext hw1; replace hB7 := hB7.ext hw1; replace hB8 := hB8.ext hw1; clear hw1)))
      refine SW.storeAgg hB8 rfl rfl rfl rfl (one_boot none 0 0 none 0 0) fun w5 hR2 hg => ?_
      replace hw := hw.own hb8w hg
      repeat' (first
        | (show CW _ _ _ _ _ _; first | refine CW.seq ?_ | refine CW.region ?_ | refine CW.block ?_ | refine CW.condtr rfl (by with_reducible rfl) ?_ | refine CW.condfr rfl (by with_reducible rfl) ?_ | refine CW.condd_t rfl (by omega) ?_ | refine CW.condd_f rfl (by omega) ?_ | refine CW.condn_t rfl (by omega) ?_ | refine CW.condn_f rfl (by omega) ?_ | refine CW.condd rfl (fun h => ?_) (fun h => ?_) | refine CW.condn rfl (fun h => ?_) (fun h => ?_) | refine CW.condt rfl ?_ | refine CW.condf rfl ?_ | refine CW.cond rfl (fun h => ?_) (fun h => ?_) | refine CW.skip ?_ | refine CW.ret ?_ | refine CW.exit ?_)
        | (show Post _ _ _ _ _; first | refine Post.seq ?_ | refine Post.seq_ret ?_ | refine Post.seq_exit ?_ | refine Post.hit ?_ | refine Post.pass rfl ?_ | refine Post.blk ?_ | refine Post.blk_ret ?_ | refine Post.again_exit ?_ | refine Post.again_ret ?_ | refine Post.np ?_)
        | refine SW.nil ?_
        | (show SW _ _ _ _ (⟨_, _, _, _, _, some _⟩ :: _) _ _; first | refine SW.want_t rfl rfl (by with_reducible rfl) ?_ | refine SW.want_f rfl rfl (by with_reducible rfl) ?_ | refine SW.skip_t rfl rfl (by with_reducible rfl) rfl ?_ | refine SW.skip_f rfl rfl (by with_reducible rfl) rfl ?_ | refine SW.skip_u rfl rfl (by with_reducible rfl) rfl ?_ | refine SW.splitd_t rfl rfl rfl (by omega) ?_ | refine SW.splitd_f rfl rfl rfl (by omega) ?_ | refine SW.splitn_t rfl rfl rfl (by omega) ?_ | refine SW.splitn_f rfl rfl rfl (by omega) ?_ | refine SW.splitd rfl rfl rfl (fun h => ?_) (fun h => ?_) | refine SW.splitn rfl rfl rfl (fun h => ?_) (fun h => ?_) | refine SW.want rfl rfl ?_ | refine SW.skip rfl rfl rfl rfl ?_ | refine SW.skipu rfl rfl rfl ?_ | refine SW.split rfl rfl rfl (fun h => ?_) (fun h => ?_))
        | refine SW.pure rfl rfl ?_
        | (show SW _ _ _ _ (⟨_, Op.fieldAddr _ _ _, _, _, _, none⟩ :: _) _ _; refine SW.st (st_field rfl) rfl ?_)
        | (show SW _ _ _ _ (⟨_, Op.nilCheck _, _, _, _, none⟩ :: _) _ _; refine SW.st (st_nilCheck rfl) rfl ?_)
        | (show SW _ _ _ _ (⟨_, Op.build _ _, _, _, _, none⟩ :: _) _ _; refine SW.st (st_build rfl rfl) rfl ?_)
        | (show SW _ _ _ _ (⟨_, Op.binOp _ _ _ _ _, _, _, _, none⟩ :: _) _ _; first | refine SW.st (st_add rfl rfl (by omega) (by omega)) rfl ?_ | refine SW.st (st_sub rfl rfl (by omega) (by omega)) rfl ?_ | refine SW.st (st_mul rfl rfl (by omega) (by omega)) rfl ?_ | refine SW.st (st_quo rfl rfl (by omega) (by omega) (by omega)) rfl ?_ | refine SW.st (st_rem rfl rfl (by omega)) rfl ?_)
        | (show SW _ _ _ _ (⟨_, Op.indexAddr _ _ _, _, _, _, none⟩ :: _) _ _; refine SW.st (st_indexN rfl rfl (by assumption) (by omega)) rfl ?_)
        | (show SW _ _ _ _ (⟨_, Op.call ⟨.builtin .len, _, _⟩, _, _, _, none⟩ :: _) _ _; refine SW.st (st_len rfl) rfl ?_)
        | (show SW _ _ _ _ (⟨_, Op.call ⟨.builtin .cap, _, _⟩, _, _, _, none⟩ :: _) _ _; refine SW.st (st_cap rfl) rfl ?_))
      exact Post.ret2c rfl rfl rfl hR2 rfl ⟨_, rfl, hw, _, rfl, BootIs.nil _ _⟩

theorem changeV_le {N : Nat} {x y : List Region} {r : Region} {res wth : Bool} (hN : N = 256) (hx : x.length ≤ 1152921504606846976) (hy : y.length ≤ 1152921504606846976) : (changeV N x y r res wth).2.1.length ≤ 2305843009213693952 ∧ (changeV N x y r res wth).2.2.length ≤ 2305843009213693952 := by
  have hr := (runs_ok (withReg (if res then y else x) r wth) N).len
  cases hb : bootB x y with
  | false => rw [changeV_8 hb]; simp
  | true =>
    by_cases h1 : r.ok
    · by_cases h40 : 40 < (runs (withReg (if res then y else x) r wth) N).length
      · rw [changeV_9 hb h1 h40]; simp
      · rw [changeV_0 hb h1 h40]
        generalize runs (withReg (if res then y else x) r wth) N = l at *
        cases res
        · simp only [Bool.false_eq_true, if_false]; omega
        · simp only [if_true]; omega
    · rw [changeV_1 hb h1]; simp


theorem lawBootAdds_ans (A : Option Addr) (n c : Nat) (B : Option Addr) (m d : Nat) (x y : List Region) (r : Region) (w : World) (hx : Sl w 2 encR A n x) (hy : Sl w 2 encR B m y) (hn : n * 16 ≤ 140737488355328) (hm : m * 16 ≤ 140737488355328) :
    Ans Try.prog 9 [.agg (bootCells A n c B m d).toArray, .agg (encR r).toArray] w fun v _ => v = .bool true := by
  refine ans_of Try.func9 rfl Try.ntmps9 rfl ?_
  obtain ⟨N, hN⟩ : ∃ N : Nat, N = 256 := ⟨_, rfl⟩
  have hle := changeV_le (N := N) (x := x) (y := y) (r := r) (res := false) (wth := true) hN (by have := hx.len; omega) (by have := hy.len; omega)
  obtain ⟨o, ho⟩ : ∃ o, changeV N x y r false true = o := ⟨_, rfl⟩
  rw [ho] at hle
  refine CW.seq (CW.region (SW.box rfl rfl fun b w1 hw hb hB => ?_))
  refine SW.box rfl rfl fun b3 w2 hw2 hb3 hB3 => ?_
  replace hw := Ext.trans hw hw2
  replace hB := hB.ext hw2
  repeat' (first
    | (show CW _ _ _ _ _ _; first | refine CW.seq ?_ | refine CW.region ?_ | refine CW.block ?_ | refine CW.condtr rfl (by with_reducible rfl) ?_ | refine CW.condfr rfl (by with_reducible rfl) ?_ | refine CW.condd_t rfl (by omega) ?_ | refine CW.condd_f rfl (by omega) ?_ | refine CW.condn_t rfl (by omega) ?_ | refine CW.condn_f rfl (by omega) ?_ | refine CW.condd rfl (fun h => ?_) (fun h => ?_) | refine CW.condn rfl (fun h => ?_) (fun h => ?_) | refine CW.condt rfl ?_ | refine CW.condf rfl ?_ | refine CW.cond rfl (fun h => ?_) (fun h => ?_) | refine CW.skip ?_ | refine CW.ret ?_ | refine CW.exit ?_)
    | (show Post _ _ _ _ _; first | refine Post.seq ?_ | refine Post.seq_ret ?_ | refine Post.seq_exit ?_ | refine Post.hit ?_ | refine Post.pass rfl ?_ | refine Post.blk ?_ | refine Post.blk_ret ?_ | refine Post.again_exit ?_ | refine Post.again_ret ?_ | refine Post.np ?_)
    | refine SW.nil ?_
    | (show SW _ _ _ _ (⟨_, _, _, _, _, some _⟩ :: _) _ _; first | refine SW.want_t rfl rfl (by with_reducible rfl) ?_ | refine SW.want_f rfl rfl (by with_reducible rfl) ?_ | refine SW.skip_t rfl rfl (by with_reducible rfl) rfl ?_ | refine SW.skip_f rfl rfl (by with_reducible rfl) rfl ?_ | refine SW.skip_u rfl rfl (by with_reducible rfl) rfl ?_ | refine SW.splitd_t rfl rfl rfl (by omega) ?_ | refine SW.splitd_f rfl rfl rfl (by omega) ?_ | refine SW.splitn_t rfl rfl rfl (by omega) ?_ | refine SW.splitn_f rfl rfl rfl (by omega) ?_ | refine SW.splitd rfl rfl rfl (fun h => ?_) (fun h => ?_) | refine SW.splitn rfl rfl rfl (fun h => ?_) (fun h => ?_) | refine SW.want rfl rfl ?_ | refine SW.skip rfl rfl rfl rfl ?_ | refine SW.skipu rfl rfl rfl ?_ | refine SW.split rfl rfl rfl (fun h => ?_) (fun h => ?_))
    | refine SW.pure rfl rfl ?_
    | (show SW _ _ _ _ (⟨_, Op.fieldAddr _ _ _, _, _, _, none⟩ :: _) _ _; refine SW.st (st_field rfl) rfl ?_)
    | (show SW _ _ _ _ (⟨_, Op.nilCheck _, _, _, _, none⟩ :: _) _ _; refine SW.st (st_nilCheck rfl) rfl ?_)
    | (show SW _ _ _ _ (⟨_, Op.build _ _, _, _, _, none⟩ :: _) _ _; refine SW.st (st_build rfl rfl) rfl ?_)
    | (show SW _ _ _ _ (⟨_, Op.binOp _ _ _ _ _, _, _, _, none⟩ :: _) _ _; first | refine SW.st (st_add rfl rfl (by omega) (by omega)) rfl ?_ | refine SW.st (st_sub rfl rfl (by omega) (by omega)) rfl ?_ | refine SW.st (st_mul rfl rfl (by omega) (by omega)) rfl ?_ | refine SW.st (st_quo rfl rfl (by omega) (by omega) (by omega)) rfl ?_ | refine SW.st (st_rem rfl rfl (by omega)) rfl ?_)
    | (show SW _ _ _ _ (⟨_, Op.indexAddr _ _ _, _, _, _, none⟩ :: _) _ _; refine SW.st (st_indexN rfl rfl (by assumption) (by omega)) rfl ?_)
    | (show SW _ _ _ _ (⟨_, Op.call ⟨.builtin .len, _, _⟩, _, _, _, none⟩ :: _) _ _; refine SW.st (st_len rfl) rfl ?_)
    | (show SW _ _ _ _ (⟨_, Op.call ⟨.builtin .cap, _, _⟩, _, _, _, none⟩ :: _) _ _; refine SW.st (st_cap rfl) rfl ?_)
    | (show SW _ _ _ _ (⟨_, Op.load _ _, _, _, _, none⟩ :: _) _ _; first | refine SW.st (st_loads rfl rfl ((fun _ _ => hB.cell))) rfl ?_ | refine SW.st (st_loadsx hw rfl rfl ((fun _ _ => hB.cell))) rfl ?_))
  refine SW.call rfl rfl (boots_ans _ _ _ _ _ _ _ _ _ (hx.ext hw) (hy.ext hw) hn hm) fun v w3 hw3 hv => ?_
  obtain ⟨Ak, nk, ck, Bk, mk, dk, rfl, hX, hY⟩ := hv
  replace hX := hX.low hw.size
  replace hY := hY.low hw.size
  obtain rfl : nk = n := by rw [← hX.len, ← hx.len]
  obtain rfl : mk = m := by rw [← hY.len, ← hy.len]
  replace hw := Ext.trans hw hw3
  replace hB := hB.ext hw3
  replace hB3 := hB3.ext hw3
  refine SW.alloc rfl fun b5 w3 hw3 hb5 hB5 => ?_
  have hb5w : w.heap.size ≤ b5 := Nat.le_trans hw.size hb5
  have hne1 : b ≠ b5 := by have := hB.lt; omega
  have hne3 : b3 ≠ b5 := by have := hB3.lt; omega
  replace hw := Ext.trans hw hw3
  replace hB := hB.ext hw3
  replace hB3 := hB3.ext hw3
  replace hX := hX.ext hw3
  replace hY := hY.ext hw3
  refine SW.storeAgg hB5 rfl rfl rfl rfl (one_boot _ _ _ _ _ _) fun w4 hB5' hg => ?_
  replace hw := hw.own hb5w hg
  replace hX := hX.grown hg (.inr (hX.ne_blk hB5 rfl))
  replace hY := hY.grown hg (.inr (hY.ne_blk hB5 rfl))
  replace hB := hB.grown hg (by simpa using hne1)
  replace hB3 := hB3.grown hg (by simpa using hne3)
  replace hB5 := hB5'
  clear hB5'
  repeat' (first
    | (show CW _ _ _ _ _ _; first | refine CW.seq ?_ | refine CW.region ?_ | refine CW.block ?_ | refine CW.condtr rfl (by with_reducible rfl) ?_ | refine CW.condfr rfl (by with_reducible rfl) ?_ | refine CW.condd_t rfl (by omega) ?_ | refine CW.condd_f rfl (by omega) ?_ | refine CW.condn_t rfl (by omega) ?_ | refine CW.condn_f rfl (by omega) ?_ | refine CW.condd rfl (fun h => ?_) (fun h => ?_) | refine CW.condn rfl (fun h => ?_) (fun h => ?_) | refine CW.condt rfl ?_ | refine CW.condf rfl ?_ | refine CW.cond rfl (fun h => ?_) (fun h => ?_) | refine CW.skip ?_ | refine CW.ret ?_ | refine CW.exit ?_)
    | (show Post _ _ _ _ _; first | refine Post.seq ?_ | refine Post.seq_ret ?_ | refine Post.seq_exit ?_ | refine Post.hit ?_ | refine Post.pass rfl ?_ | refine Post.blk ?_ | refine Post.blk_ret ?_ | refine Post.again_exit ?_ | refine Post.again_ret ?_ | refine Post.np ?_)
    | refine SW.nil ?_
    | (show SW _ _ _ _ (⟨_, _, _, _, _, some _⟩ :: _) _ _; first | refine SW.want_t rfl rfl (by with_reducible rfl) ?_ | refine SW.want_f rfl rfl (by with_reducible rfl) ?_ | refine SW.skip_t rfl rfl (by with_reducible rfl) rfl ?_ | refine SW.skip_f rfl rfl (by with_reducible rfl) rfl ?_ | refine SW.skip_u rfl rfl (by with_reducible rfl) rfl ?_ | refine SW.splitd_t rfl rfl rfl (by omega) ?_ | refine SW.splitd_f rfl rfl rfl (by omega) ?_ | refine SW.splitn_t rfl rfl rfl (by omega) ?_ | refine SW.splitn_f rfl rfl rfl (by omega) ?_ | refine SW.splitd rfl rfl rfl (fun h => ?_) (fun h => ?_) | refine SW.splitn rfl rfl rfl (fun h => ?_) (fun h => ?_) | refine SW.want rfl rfl ?_ | refine SW.skip rfl rfl rfl rfl ?_ | refine SW.skipu rfl rfl rfl ?_ | refine SW.split rfl rfl rfl (fun h => ?_) (fun h => ?_))
    | refine SW.pure rfl rfl ?_
    | (show SW _ _ _ _ (⟨_, Op.fieldAddr _ _ _, _, _, _, none⟩ :: _) _ _; refine SW.st (st_field rfl) rfl ?_)
    | (show SW _ _ _ _ (⟨_, Op.nilCheck _, _, _, _, none⟩ :: _) _ _; refine SW.st (st_nilCheck rfl) rfl ?_)
    | (show SW _ _ _ _ (⟨_, Op.build _ _, _, _, _, none⟩ :: _) _ _; refine SW.st (st_build rfl rfl) rfl ?_)
    | (show SW _ _ _ _ (⟨_, Op.binOp _ _ _ _ _, _, _, _, none⟩ :: _) _ _; first | refine SW.st (st_add rfl rfl (by omega) (by omega)) rfl ?_ | refine SW.st (st_sub rfl rfl (by omega) (by omega)) rfl ?_ | refine SW.st (st_mul rfl rfl (by omega) (by omega)) rfl ?_ | refine SW.st (st_quo rfl rfl (by omega) (by omega) (by omega)) rfl ?_ | refine SW.st (st_rem rfl rfl (by omega)) rfl ?_)
    | (show SW _ _ _ _ (⟨_, Op.indexAddr _ _ _, _, _, _, none⟩ :: _) _ _; refine SW.st (st_indexN rfl rfl (by assumption) (by omega)) rfl ?_)
    | (show SW _ _ _ _ (⟨_, Op.call ⟨.builtin .len, _, _⟩, _, _, _, none⟩ :: _) _ _; refine SW.st (st_len rfl) rfl ?_)
    | (show SW _ _ _ _ (⟨_, Op.call ⟨.builtin .cap, _, _⟩, _, _, _, none⟩ :: _) _ _; refine SW.st (st_cap rfl) rfl ?_)
    | (show SW _ _ _ _ (⟨_, Op.load _ _, _, _, _, none⟩ :: _) _ _; first | refine SW.st (st_loads rfl rfl ((fun _ _ => hB5.cell))) rfl ?_ | refine SW.st (st_loadsx hw rfl rfl ((fun _ _ => hB5.cell))) rfl ?_ | refine SW.st (st_loads rfl rfl ((fun _ _ => hB3.cell))) rfl ?_ | refine SW.st (st_loadsx hw rfl rfl ((fun _ _ => hB3.cell))) rfl ?_))
  refine SW.call rfl rfl (BAdd_ans _ _ _ _ _ _ x y r N hN _ hX.sl hY.sl hn hm) fun v w3 hw3 hv => ?_
  rw [ho] at hv
  obtain ⟨u, rfl, A6, n6, c6, B6, m6, d6, rfl, h6, h6'⟩ := hv
  replace hw := Ext.trans hw hw3
  replace hB := hB.ext hw3
  replace hB3 := hB3.ext hw3
  replace hB5 := hB5.ext hw3
  replace hX := hX.ext hw3
  replace hY := hY.ext hw3
  repeat' (first
    | (show CW _ _ _ _ _ _; first | refine CW.seq ?_ | refine CW.region ?_ | refine CW.block ?_ | refine CW.condtr rfl (by with_reducible rfl) ?_ | refine CW.condfr rfl (by with_reducible rfl) ?_ | refine CW.condd_t rfl (by omega) ?_ | refine CW.condd_f rfl (by omega) ?_ | refine CW.condn_t rfl (by omega) ?_ | refine CW.condn_f rfl (by omega) ?_ | refine CW.condd rfl (fun h => ?_) (fun h => ?_) | refine CW.condn rfl (fun h => ?_) (fun h => ?_) | refine CW.condt rfl ?_ | refine CW.condf rfl ?_ | refine CW.cond rfl (fun h => ?_) (fun h => ?_) | refine CW.skip ?_ | refine CW.ret ?_ | refine CW.exit ?_)
    | (show Post _ _ _ _ _; first | refine Post.seq ?_ | refine Post.seq_ret ?_ | refine Post.seq_exit ?_ | refine Post.hit ?_ | refine Post.pass rfl ?_ | refine Post.blk ?_ | refine Post.blk_ret ?_ | refine Post.again_exit ?_ | refine Post.again_ret ?_ | refine Post.np ?_)
    | refine SW.nil ?_
    | (show SW _ _ _ _ (⟨_, _, _, _, _, some _⟩ :: _) _ _; first | refine SW.want_t rfl rfl (by with_reducible rfl) ?_ | refine SW.want_f rfl rfl (by with_reducible rfl) ?_ | refine SW.skip_t rfl rfl (by with_reducible rfl) rfl ?_ | refine SW.skip_f rfl rfl (by with_reducible rfl) rfl ?_ | refine SW.skip_u rfl rfl (by with_reducible rfl) rfl ?_ | refine SW.splitd_t rfl rfl rfl (by omega) ?_ | refine SW.splitd_f rfl rfl rfl (by omega) ?_ | refine SW.splitn_t rfl rfl rfl (by omega) ?_ | refine SW.splitn_f rfl rfl rfl (by omega) ?_ | refine SW.splitd rfl rfl rfl (fun h => ?_) (fun h => ?_) | refine SW.splitn rfl rfl rfl (fun h => ?_) (fun h => ?_) | refine SW.want rfl rfl ?_ | refine SW.skip rfl rfl rfl rfl ?_ | refine SW.skipu rfl rfl rfl ?_ | refine SW.split rfl rfl rfl (fun h => ?_) (fun h => ?_))
    | refine SW.pure rfl rfl ?_
    | (show SW _ _ _ _ (⟨_, Op.fieldAddr _ _ _, _, _, _, none⟩ :: _) _ _; refine SW.st (st_field rfl) rfl ?_)
    | (show SW _ _ _ _ (⟨_, Op.nilCheck _, _, _, _, none⟩ :: _) _ _; refine SW.st (st_nilCheck rfl) rfl ?_)
    | (show SW _ _ _ _ (⟨_, Op.build _ _, _, _, _, none⟩ :: _) _ _; refine SW.st (st_build rfl rfl) rfl ?_)
    | (show SW _ _ _ _ (⟨_, Op.binOp _ _ _ _ _, _, _, _, none⟩ :: _) _ _; first | refine SW.st (st_add rfl rfl (by omega) (by omega)) rfl ?_ | refine SW.st (st_sub rfl rfl (by omega) (by omega)) rfl ?_ | refine SW.st (st_mul rfl rfl (by omega) (by omega)) rfl ?_ | refine SW.st (st_quo rfl rfl (by omega) (by omega) (by omega)) rfl ?_ | refine SW.st (st_rem rfl rfl (by omega)) rfl ?_)
    | (show SW _ _ _ _ (⟨_, Op.indexAddr _ _ _, _, _, _, none⟩ :: _) _ _; refine SW.st (st_indexN rfl rfl (by assumption) (by omega)) rfl ?_)
    | (show SW _ _ _ _ (⟨_, Op.call ⟨.builtin .len, _, _⟩, _, _, _, none⟩ :: _) _ _; refine SW.st (st_len rfl) rfl ?_)
    | (show SW _ _ _ _ (⟨_, Op.call ⟨.builtin .cap, _, _⟩, _, _, _, none⟩ :: _) _ _; refine SW.st (st_cap rfl) rfl ?_))
  refine SW.alloc rfl fun b6 w3 hw3 hb6 hB6 => ?_
  have hb6w : w.heap.size ≤ b6 := Nat.le_trans hw.size hb6
  have hne1 : b ≠ b6 := by have := hB.lt; omega
  have hne3 : b3 ≠ b6 := by have := hB3.lt; omega
  have hne5 : b5 ≠ b6 := by have := hB5.lt; omega
  replace hw := Ext.trans hw hw3
  replace hB := hB.ext hw3
  replace hB3 := hB3.ext hw3
  replace hB5 := hB5.ext hw3
  replace hX := hX.ext hw3
  replace hY := hY.ext hw3
  replace h6 := h6.ext hw3
  replace h6' := h6'.ext hw3
  refine SW.storeAgg hB6 rfl rfl rfl rfl (one_boot _ _ _ _ _ _) fun w4 hB6' hg => ?_
  replace hw := hw.own hb6w hg
  replace hX := hX.grown hg (.inr (hX.ne_blk hB6 rfl))
  replace hY := hY.grown hg (.inr (hY.ne_blk hB6 rfl))
  replace h6 := h6.grown hg (.inr (h6.ne_blk hB6 rfl))
  replace h6' := h6'.grown hg (.inr (h6'.ne_blk hB6 rfl))
  replace hB := hB.grown hg (by simpa using hne1)
  replace hB3 := hB3.grown hg (by simpa using hne3)
  replace hB5 := hB5.grown hg (by simpa using hne5)
  replace hB6 := hB6'
  clear hB6'
  repeat' (first
    | (show CW _ _ _ _ _ _; first | refine CW.seq ?_ | refine CW.region ?_ | refine CW.block ?_ | refine CW.condtr rfl (by with_reducible rfl) ?_ | refine CW.condfr rfl (by with_reducible rfl) ?_ | refine CW.condd_t rfl (by omega) ?_ | refine CW.condd_f rfl (by omega) ?_ | refine CW.condn_t rfl (by omega) ?_ | refine CW.condn_f rfl (by omega) ?_ | refine CW.condd rfl (fun h => ?_) (fun h => ?_) | refine CW.condn rfl (fun h => ?_) (fun h => ?_) | refine CW.condt rfl ?_ | refine CW.condf rfl ?_ | refine CW.cond rfl (fun h => ?_) (fun h => ?_) | refine CW.skip ?_ | refine CW.ret ?_ | refine CW.exit ?_)
    | (show Post _ _ _ _ _; first | refine Post.seq ?_ | refine Post.seq_ret ?_ | refine Post.seq_exit ?_ | refine Post.hit ?_ | refine Post.pass rfl ?_ | refine Post.blk ?_ | refine Post.blk_ret ?_ | refine Post.again_exit ?_ | refine Post.again_ret ?_ | refine Post.np ?_)
    | refine SW.nil ?_
    | (show SW _ _ _ _ (⟨_, _, _, _, _, some _⟩ :: _) _ _; first | refine SW.want_t rfl rfl (by with_reducible rfl) ?_ | refine SW.want_f rfl rfl (by with_reducible rfl) ?_ | refine SW.skip_t rfl rfl (by with_reducible rfl) rfl ?_ | refine SW.skip_f rfl rfl (by with_reducible rfl) rfl ?_ | refine SW.skip_u rfl rfl (by with_reducible rfl) rfl ?_ | refine SW.splitd_t rfl rfl rfl (by omega) ?_ | refine SW.splitd_f rfl rfl rfl (by omega) ?_ | refine SW.splitn_t rfl rfl rfl (by omega) ?_ | refine SW.splitn_f rfl rfl rfl (by omega) ?_ | refine SW.splitd rfl rfl rfl (fun h => ?_) (fun h => ?_) | refine SW.splitn rfl rfl rfl (fun h => ?_) (fun h => ?_) | refine SW.want rfl rfl ?_ | refine SW.skip rfl rfl rfl rfl ?_ | refine SW.skipu rfl rfl rfl ?_ | refine SW.split rfl rfl rfl (fun h => ?_) (fun h => ?_))
    | refine SW.pure rfl rfl ?_
    | (show SW _ _ _ _ (⟨_, Op.fieldAddr _ _ _, _, _, _, none⟩ :: _) _ _; refine SW.st (st_field rfl) rfl ?_)
    | (show SW _ _ _ _ (⟨_, Op.nilCheck _, _, _, _, none⟩ :: _) _ _; refine SW.st (st_nilCheck rfl) rfl ?_)
    | (show SW _ _ _ _ (⟨_, Op.build _ _, _, _, _, none⟩ :: _) _ _; refine SW.st (st_build rfl rfl) rfl ?_)
    | (show SW _ _ _ _ (⟨_, Op.binOp _ _ _ _ _, _, _, _, none⟩ :: _) _ _; first | refine SW.st (st_add rfl rfl (by omega) (by omega)) rfl ?_ | refine SW.st (st_sub rfl rfl (by omega) (by omega)) rfl ?_ | refine SW.st (st_mul rfl rfl (by omega) (by omega)) rfl ?_ | refine SW.st (st_quo rfl rfl (by omega) (by omega) (by omega)) rfl ?_ | refine SW.st (st_rem rfl rfl (by omega)) rfl ?_)
    | (show SW _ _ _ _ (⟨_, Op.indexAddr _ _ _, _, _, _, none⟩ :: _) _ _; refine SW.st (st_indexN rfl rfl (by assumption) (by omega)) rfl ?_)
    | (show SW _ _ _ _ (⟨_, Op.call ⟨.builtin .len, _, _⟩, _, _, _, none⟩ :: _) _ _; refine SW.st (st_len rfl) rfl ?_)
    | (show SW _ _ _ _ (⟨_, Op.call ⟨.builtin .cap, _, _⟩, _, _, _, none⟩ :: _) _ _; refine SW.st (st_cap rfl) rfl ?_)
    | (show SW _ _ _ _ (⟨_, Op.load _ _, _, _, _, none⟩ :: _) _ _; first | refine SW.st (st_loads rfl rfl ((fun _ _ => hB.cell))) rfl ?_ | refine SW.st (st_loadsx hw rfl rfl ((fun _ _ => hB.cell))) rfl ?_ | refine SW.st (st_loads rfl rfl ((fun _ _ => hB3.cell))) rfl ?_ | refine SW.st (st_loadsx hw rfl rfl ((fun _ _ => hB3.cell))) rfl ?_))
  refine SW.call rfl rfl (ChangedOf_ans _ _ _ _ _ _ x y r _ _ N hN _ (hx.ext hw) (hy.ext hw) hn hm) fun v w3 hw3 hv => ?_
  rw [ho] at hv
  obtain ⟨u, rfl, A8, n8, c8, B8, m8, d8, rfl, h8, h8'⟩ := hv
  replace hw := Ext.trans hw hw3
  replace hB := hB.ext hw3
  replace hB5 := hB5.ext hw3
  replace hB6 := hB6.ext hw3
  replace hX := hX.ext hw3
  replace hY := hY.ext hw3
  replace h6 := h6.ext hw3
  replace h6' := h6'.ext hw3
  repeat' (first
    | (show CW _ _ _ _ _ _; first | refine CW.seq ?_ | refine CW.region ?_ | refine CW.block ?_ | refine CW.condtr rfl (by with_reducible rfl) ?_ | refine CW.condfr rfl (by with_reducible rfl) ?_ | refine CW.condd_t rfl (by omega) ?_ | refine CW.condd_f rfl (by omega) ?_ | refine CW.condn_t rfl (by omega) ?_ | refine CW.condn_f rfl (by omega) ?_ | refine CW.condd rfl (fun h => ?_) (fun h => ?_) | refine CW.condn rfl (fun h => ?_) (fun h => ?_) | refine CW.condt rfl ?_ | refine CW.condf rfl ?_ | refine CW.cond rfl (fun h => ?_) (fun h => ?_) | refine CW.skip ?_ | refine CW.ret ?_ | refine CW.exit ?_)
    | (show Post _ _ _ _ _; first | refine Post.seq ?_ | refine Post.seq_ret ?_ | refine Post.seq_exit ?_ | refine Post.hit ?_ | refine Post.pass rfl ?_ | refine Post.blk ?_ | refine Post.blk_ret ?_ | refine Post.again_exit ?_ | refine Post.again_ret ?_ | refine Post.np ?_)
    | refine SW.nil ?_
    | (show SW _ _ _ _ (⟨_, _, _, _, _, some _⟩ :: _) _ _; first | refine SW.want_t rfl rfl (by with_reducible rfl) ?_ | refine SW.want_f rfl rfl (by with_reducible rfl) ?_ | refine SW.skip_t rfl rfl (by with_reducible rfl) rfl ?_ | refine SW.skip_f rfl rfl (by with_reducible rfl) rfl ?_ | refine SW.skip_u rfl rfl (by with_reducible rfl) rfl ?_ | refine SW.splitd_t rfl rfl rfl (by omega) ?_ | refine SW.splitd_f rfl rfl rfl (by omega) ?_ | refine SW.splitn_t rfl rfl rfl (by omega) ?_ | refine SW.splitn_f rfl rfl rfl (by omega) ?_ | refine SW.splitd rfl rfl rfl (fun h => ?_) (fun h => ?_) | refine SW.splitn rfl rfl rfl (fun h => ?_) (fun h => ?_) | refine SW.want rfl rfl ?_ | refine SW.skip rfl rfl rfl rfl ?_ | refine SW.skipu rfl rfl rfl ?_ | refine SW.split rfl rfl rfl (fun h => ?_) (fun h => ?_))
    | refine SW.pure rfl rfl ?_
    | (show SW _ _ _ _ (⟨_, Op.fieldAddr _ _ _, _, _, _, none⟩ :: _) _ _; refine SW.st (st_field rfl) rfl ?_)
    | (show SW _ _ _ _ (⟨_, Op.nilCheck _, _, _, _, none⟩ :: _) _ _; refine SW.st (st_nilCheck rfl) rfl ?_)
    | (show SW _ _ _ _ (⟨_, Op.build _ _, _, _, _, none⟩ :: _) _ _; refine SW.st (st_build rfl rfl) rfl ?_)
    | (show SW _ _ _ _ (⟨_, Op.binOp _ _ _ _ _, _, _, _, none⟩ :: _) _ _; first | refine SW.st (st_add rfl rfl (by omega) (by omega)) rfl ?_ | refine SW.st (st_sub rfl rfl (by omega) (by omega)) rfl ?_ | refine SW.st (st_mul rfl rfl (by omega) (by omega)) rfl ?_ | refine SW.st (st_quo rfl rfl (by omega) (by omega) (by omega)) rfl ?_ | refine SW.st (st_rem rfl rfl (by omega)) rfl ?_)
    | (show SW _ _ _ _ (⟨_, Op.indexAddr _ _ _, _, _, _, none⟩ :: _) _ _; refine SW.st (st_indexN rfl rfl (by assumption) (by omega)) rfl ?_)
    | (show SW _ _ _ _ (⟨_, Op.call ⟨.builtin .len, _, _⟩, _, _, _, none⟩ :: _) _ _; refine SW.st (st_len rfl) rfl ?_)
    | (show SW _ _ _ _ (⟨_, Op.call ⟨.builtin .cap, _, _⟩, _, _, _, none⟩ :: _) _ _; refine SW.st (st_cap rfl) rfl ?_))
  refine SW.alloc rfl fun b8 w3 hw3 hb8 hB8 => ?_
  have hb8w : w.heap.size ≤ b8 := Nat.le_trans hw.size hb8
  have hne1 : b ≠ b8 := by have := hB.lt; omega
  have hne5 : b5 ≠ b8 := by have := hB5.lt; omega
  have hne6 : b6 ≠ b8 := by have := hB6.lt; omega
  replace hw := Ext.trans hw hw3
  replace hB := hB.ext hw3
  replace hB5 := hB5.ext hw3
  replace hB6 := hB6.ext hw3
  replace hX := hX.ext hw3
  replace hY := hY.ext hw3
  replace h6 := h6.ext hw3
  replace h6' := h6'.ext hw3
  replace h8 := h8.ext hw3
  replace h8' := h8'.ext hw3
  refine SW.storeAgg hB8 rfl rfl rfl rfl (one_boot _ _ _ _ _ _) fun w4 hB8' hg => ?_
  replace hw := hw.own hb8w hg
  replace hX := hX.grown hg (.inr (hX.ne_blk hB8 rfl))
  replace hY := hY.grown hg (.inr (hY.ne_blk hB8 rfl))
  replace h6 := h6.grown hg (.inr (h6.ne_blk hB8 rfl))
  replace h6' := h6'.grown hg (.inr (h6'.ne_blk hB8 rfl))
  replace h8 := h8.grown hg (.inr (h8.ne_blk hB8 rfl))
  replace h8' := h8'.grown hg (.inr (h8'.ne_blk hB8 rfl))
  replace hB := hB.grown hg (by simpa using hne1)
  replace hB5 := hB5.grown hg (by simpa using hne5)
  replace hB6 := hB6.grown hg (by simpa using hne6)
  replace hB8 := hB8'
  clear hB8'
  obtain ⟨o0, o1, o2⟩ := o
  simp only at h6 h6' h8 h8' hle
  have s1 : ∀ w', Ext w w' → Sl w' 2 encR A6 n6 o1 → Sl w' 2 encR B6 m6 o2 → Sl w' 2 encR A8 n8 o1 → Sl w' 2 encR B8 m8 o2 → Ans Try.prog 39 [.agg (bootCells A6 n6 c6 B6 m6 d6).toArray, .agg (bootCells A8 n8 c8 B8 m8 d8).toArray] w' fun v _ => v = .bool true := fun w' _ a1 a2 a3 a4 => by
    have := sameBoot_ans A6 n6 c6 B6 m6 d6 A8 n8 c8 B8 m8 d8 o1 o2 o1 o2 w' a1 a2 a3 a4 (by have := a1.len; omega) (by have := a2.len; omega)
    simpa using this
  have s2 : ∀ w', Ext w w' → Sl w' 2 encR Ak nk x → Sl w' 2 encR Bk mk y → Ans Try.prog 39 [.agg (bootCells Ak nk ck Bk mk dk).toArray, .agg (bootCells A nk c B mk d).toArray] w' fun v _ => v = .bool true := fun w' h a1 a2 => by
    have := sameBoot_ans Ak nk ck Bk mk dk A nk c B mk d x y x y w' a1 a2 (hx.ext h) (hy.ext h) (by omega) (by omega)
    simpa using this
  repeat' (first
    | (show CW _ _ _ _ _ _; first | refine CW.seq ?_ | refine CW.region ?_ | refine CW.block ?_ | refine CW.condtr rfl (by with_reducible rfl) ?_ | refine CW.condfr rfl (by with_reducible rfl) ?_ | refine CW.condd_t rfl (by omega) ?_ | refine CW.condd_f rfl (by omega) ?_ | refine CW.condn_t rfl (by omega) ?_ | refine CW.condn_f rfl (by omega) ?_ | refine CW.condd rfl (fun h => ?_) (fun h => ?_) | refine CW.condn rfl (fun h => ?_) (fun h => ?_) | refine CW.condt rfl ?_ | refine CW.condf rfl ?_ | refine CW.cond rfl (fun h => ?_) (fun h => ?_) | refine CW.skip ?_ | refine CW.ret ?_ | refine CW.exit ?_)
    | (show Post _ _ _ _ _; first | refine Post.seq ?_ | refine Post.seq_ret ?_ | refine Post.seq_exit ?_ | refine Post.hit ?_ | refine Post.pass rfl ?_ | refine Post.blk ?_ | refine Post.blk_ret ?_ | refine Post.again_exit ?_ | refine Post.again_ret ?_ | refine Post.np ?_)
    | refine SW.nil ?_
    | (show SW _ _ _ _ (⟨_, _, _, _, _, some _⟩ :: _) _ _; first | refine SW.want_t rfl rfl (by with_reducible rfl) ?_ | refine SW.want_f rfl rfl (by with_reducible rfl) ?_ | refine SW.skip_t rfl rfl (by with_reducible rfl) rfl ?_ | refine SW.skip_f rfl rfl (by with_reducible rfl) rfl ?_ | refine SW.skip_u rfl rfl (by with_reducible rfl) rfl ?_ | refine SW.splitd_t rfl rfl rfl (by omega) ?_ | refine SW.splitd_f rfl rfl rfl (by omega) ?_ | refine SW.splitn_t rfl rfl rfl (by omega) ?_ | refine SW.splitn_f rfl rfl rfl (by omega) ?_ | refine SW.splitd rfl rfl rfl (fun h => ?_) (fun h => ?_) | refine SW.splitn rfl rfl rfl (fun h => ?_) (fun h => ?_) | refine SW.want rfl rfl ?_ | refine SW.skip rfl rfl rfl rfl ?_ | refine SW.skipu rfl rfl rfl ?_ | refine SW.split rfl rfl rfl (fun h => ?_) (fun h => ?_))
    | refine SW.pure rfl rfl ?_
    | (show SW _ _ _ _ (⟨_, Op.fieldAddr _ _ _, _, _, _, none⟩ :: _) _ _; refine SW.st (st_field rfl) rfl ?_)
    | (show SW _ _ _ _ (⟨_, Op.nilCheck _, _, _, _, none⟩ :: _) _ _; refine SW.st (st_nilCheck rfl) rfl ?_)
    | (show SW _ _ _ _ (⟨_, Op.build _ _, _, _, _, none⟩ :: _) _ _; refine SW.st (st_build rfl rfl) rfl ?_)
    | (show SW _ _ _ _ (⟨_, Op.binOp _ _ _ _ _, _, _, _, none⟩ :: _) _ _; first | refine SW.st (st_add rfl rfl (by omega) (by omega)) rfl ?_ | refine SW.st (st_sub rfl rfl (by omega) (by omega)) rfl ?_ | refine SW.st (st_mul rfl rfl (by omega) (by omega)) rfl ?_ | refine SW.st (st_quo rfl rfl (by omega) (by omega) (by omega)) rfl ?_ | refine SW.st (st_rem rfl rfl (by omega)) rfl ?_)
    | (show SW _ _ _ _ (⟨_, Op.indexAddr _ _ _, _, _, _, none⟩ :: _) _ _; refine SW.st (st_indexN rfl rfl (by assumption) (by omega)) rfl ?_)
    | (show SW _ _ _ _ (⟨_, Op.call ⟨.builtin .len, _, _⟩, _, _, _, none⟩ :: _) _ _; refine SW.st (st_len rfl) rfl ?_)
    | (show SW _ _ _ _ (⟨_, Op.call ⟨.builtin .cap, _, _⟩, _, _, _, none⟩ :: _) _ _; refine SW.st (st_cap rfl) rfl ?_)
    | (show SW _ _ _ _ (⟨_, Op.load _ _, _, _, _, none⟩ :: _) _ _; first | refine SW.st (st_loads rfl rfl ((fun _ _ => hB6.cell))) rfl ?_ | refine SW.st (st_loadsx hw rfl rfl ((fun _ _ => hB6.cell))) rfl ?_ | refine SW.st (st_loads rfl rfl ((fun _ _ => hB8.cell))) rfl ?_ | refine SW.st (st_loadsx hw rfl rfl ((fun _ _ => hB8.cell))) rfl ?_ | refine SW.st (st_loads rfl rfl ((fun _ _ => hB5.cell))) rfl ?_ | refine SW.st (st_loadsx hw rfl rfl ((fun _ _ => hB5.cell))) rfl ?_ | refine SW.st (st_loads rfl rfl ((fun _ _ => hB.cell))) rfl ?_ | refine SW.st (st_loadsx hw rfl rfl ((fun _ _ => hB.cell))) rfl ?_)
    | (show SW _ _ _ _ (⟨_, Op.call ⟨.value (.func _), _, _⟩, _, _, _, none⟩ :: _) _ _; first | (refine SW.call rfl rfl (s1 _ hw h6.sl h6'.sl h8.sl h8'.sl) ?_; intro v w1 hw1 hv; subst hv; replace hw := Ext.trans hw hw1; replace hB := hB.ext hw1; replace hB5 := hB5.ext hw1; replace hB6 := hB6.ext hw1; replace hB8 := hB8.ext hw1; replace hX := hX.ext hw1; replace hY := hY.ext hw1; replace h6 := h6.ext hw1; replace h6' := h6'.ext hw1; replace h8 := h8.ext hw1; replace h8' := h8'.ext hw1; clear hw1) | (refine SW.call rfl rfl (s2 _ hw hX.sl hY.sl) ?_; intro v w1 hw1 hv; subst hv; replace hw := Ext.trans hw hw1; replace hB := hB.ext hw1; replace hB5 := hB5.ext hw1; replace hB6 := hB6.ext hw1; replace hB8 := hB8.ext hw1; replace hX := hX.ext hw1; replace hY := hY.ext hw1; replace h6 := h6.ext hw1; replace h6' := h6'.ext hw1; replace h8 := h8.ext hw1; replace h8' := h8'.ext hw1; clear hw1)))
  exact Post.ret1 rfl rfl ⟨_, rfl, hw, rfl⟩


theorem lawBootRemoves_ans (A : Option Addr) (n c : Nat) (B : Option Addr) (m d : Nat) (x y : List Region) (r : Region) (w : World) (hx : Sl w 2 encR A n x) (hy : Sl w 2 encR B m y) (hn : n * 16 ≤ 140737488355328) (hm : m * 16 ≤ 140737488355328) :
    Ans Try.prog 10 [.agg (bootCells A n c B m d).toArray, .agg (encR r).toArray] w fun v _ => v = .bool true := by
  refine ans_of Try.func10 rfl Try.ntmps10 rfl ?_
  obtain ⟨N, hN⟩ : ∃ N : Nat, N = 256 := ⟨_, rfl⟩
  have hle := changeV_le (N := N) (x := x) (y := y) (r := r) (res := false) (wth := false) hN (by have := hx.len; omega) (by have := hy.len; omega)
  obtain ⟨o, ho⟩ : ∃ o, changeV N x y r false false = o := ⟨_, rfl⟩
  rw [ho] at hle
  refine CW.seq (CW.region (SW.box rfl rfl fun b w1 hw hb hB => ?_))
  refine SW.box rfl rfl fun b3 w2 hw2 hb3 hB3 => ?_
  replace hw := Ext.trans hw hw2
  replace hB := hB.ext hw2
  repeat' (first
    | (show CW _ _ _ _ _ _; first | refine CW.seq ?_ | refine CW.region ?_ | refine CW.block ?_ | refine CW.condtr rfl (by with_reducible rfl) ?_ | refine CW.condfr rfl (by with_reducible rfl) ?_ | refine CW.condd_t rfl (by omega) ?_ | refine CW.condd_f rfl (by omega) ?_ | refine CW.condn_t rfl (by omega) ?_ | refine CW.condn_f rfl (by omega) ?_ | refine CW.condd rfl (fun h => ?_) (fun h => ?_) | refine CW.condn rfl (fun h => ?_) (fun h => ?_) | refine CW.condt rfl ?_ | refine CW.condf rfl ?_ | refine CW.cond rfl (fun h => ?_) (fun h => ?_) | refine CW.skip ?_ | refine CW.ret ?_ | refine CW.exit ?_)
    | (show Post _ _ _ _ _; first | refine Post.seq ?_ | refine Post.seq_ret ?_ | refine Post.seq_exit ?_ | refine Post.hit ?_ | refine Post.pass rfl ?_ | refine Post.blk ?_ | refine Post.blk_ret ?_ | refine Post.again_exit ?_ | refine Post.again_ret ?_ | refine Post.np ?_)
    | refine SW.nil ?_
    | (show SW _ _ _ _ (⟨_, _, _, _, _, some _⟩ :: _) _ _; first | refine SW.want_t rfl rfl (by with_reducible rfl) ?_ | refine SW.want_f rfl rfl (by with_reducible rfl) ?_ | refine SW.skip_t rfl rfl (by with_reducible rfl) rfl ?_ | refine SW.skip_f rfl rfl (by with_reducible rfl) rfl ?_ | refine SW.skip_u rfl rfl (by with_reducible rfl) rfl ?_ | refine SW.splitd_t rfl rfl rfl (by omega) ?_ | refine SW.splitd_f rfl rfl rfl (by omega) ?_ | refine SW.splitn_t rfl rfl rfl (by omega) ?_ | refine SW.splitn_f rfl rfl rfl (by omega) ?_ | refine SW.splitd rfl rfl rfl (fun h => ?_) (fun h => ?_) | refine SW.splitn rfl rfl rfl (fun h => ?_) (fun h => ?_) | refine SW.want rfl rfl ?_ | refine SW.skip rfl rfl rfl rfl ?_ | refine SW.skipu rfl rfl rfl ?_ | refine SW.split rfl rfl rfl (fun h => ?_) (fun h => ?_))
    | refine SW.pure rfl rfl ?_
    | (show SW _ _ _ _ (⟨_, Op.fieldAddr _ _ _, _, _, _, none⟩ :: _) _ _; refine SW.st (st_field rfl) rfl ?_)
    | (show SW _ _ _ _ (⟨_, Op.nilCheck _, _, _, _, none⟩ :: _) _ _; refine SW.st (st_nilCheck rfl) rfl ?_)
    | (show SW _ _ _ _ (⟨_, Op.build _ _, _, _, _, none⟩ :: _) _ _; refine SW.st (st_build rfl rfl) rfl ?_)
    | (show SW _ _ _ _ (⟨_, Op.binOp _ _ _ _ _, _, _, _, none⟩ :: _) _ _; first | refine SW.st (st_add rfl rfl (by omega) (by omega)) rfl ?_ | refine SW.st (st_sub rfl rfl (by omega) (by omega)) rfl ?_ | refine SW.st (st_mul rfl rfl (by omega) (by omega)) rfl ?_ | refine SW.st (st_quo rfl rfl (by omega) (by omega) (by omega)) rfl ?_ | refine SW.st (st_rem rfl rfl (by omega)) rfl ?_)
    | (show SW _ _ _ _ (⟨_, Op.indexAddr _ _ _, _, _, _, none⟩ :: _) _ _; refine SW.st (st_indexN rfl rfl (by assumption) (by omega)) rfl ?_)
    | (show SW _ _ _ _ (⟨_, Op.call ⟨.builtin .len, _, _⟩, _, _, _, none⟩ :: _) _ _; refine SW.st (st_len rfl) rfl ?_)
    | (show SW _ _ _ _ (⟨_, Op.call ⟨.builtin .cap, _, _⟩, _, _, _, none⟩ :: _) _ _; refine SW.st (st_cap rfl) rfl ?_)
    | (show SW _ _ _ _ (⟨_, Op.load _ _, _, _, _, none⟩ :: _) _ _; first | refine SW.st (st_loads rfl rfl ((fun _ _ => hB.cell))) rfl ?_ | refine SW.st (st_loadsx hw rfl rfl ((fun _ _ => hB.cell))) rfl ?_))
  refine SW.call rfl rfl (boots_ans _ _ _ _ _ _ _ _ _ (hx.ext hw) (hy.ext hw) hn hm) fun v w3 hw3 hv => ?_
  obtain ⟨Ak, nk, ck, Bk, mk, dk, rfl, hX, hY⟩ := hv
  replace hX := hX.low hw.size
  replace hY := hY.low hw.size
  obtain rfl : nk = n := by rw [← hX.len, ← hx.len]
  obtain rfl : mk = m := by rw [← hY.len, ← hy.len]
  replace hw := Ext.trans hw hw3
  replace hB := hB.ext hw3
  replace hB3 := hB3.ext hw3
  refine SW.alloc rfl fun b5 w3 hw3 hb5 hB5 => ?_
  have hb5w : w.heap.size ≤ b5 := Nat.le_trans hw.size hb5
  have hne1 : b ≠ b5 := by have := hB.lt; omega
  have hne3 : b3 ≠ b5 := by have := hB3.lt; omega
  replace hw := Ext.trans hw hw3
  replace hB := hB.ext hw3
  replace hB3 := hB3.ext hw3
  replace hX := hX.ext hw3
  replace hY := hY.ext hw3
  refine SW.storeAgg hB5 rfl rfl rfl rfl (one_boot _ _ _ _ _ _) fun w4 hB5' hg => ?_
  replace hw := hw.own hb5w hg
  replace hX := hX.grown hg (.inr (hX.ne_blk hB5 rfl))
  replace hY := hY.grown hg (.inr (hY.ne_blk hB5 rfl))
  replace hB := hB.grown hg (by simpa using hne1)
  replace hB3 := hB3.grown hg (by simpa using hne3)
  replace hB5 := hB5'
  clear hB5'
  repeat' (first
    | (show CW _ _ _ _ _ _; first | refine CW.seq ?_ | refine CW.region ?_ | refine CW.block ?_ | refine CW.condtr rfl (by with_reducible rfl) ?_ | refine CW.condfr rfl (by with_reducible rfl) ?_ | refine CW.condd_t rfl (by omega) ?_ | refine CW.condd_f rfl (by omega) ?_ | refine CW.condn_t rfl (by omega) ?_ | refine CW.condn_f rfl (by omega) ?_ | refine CW.condd rfl (fun h => ?_) (fun h => ?_) | refine CW.condn rfl (fun h => ?_) (fun h => ?_) | refine CW.condt rfl ?_ | refine CW.condf rfl ?_ | refine CW.cond rfl (fun h => ?_) (fun h => ?_) | refine CW.skip ?_ | refine CW.ret ?_ | refine CW.exit ?_)
    | (show Post _ _ _ _ _; first | refine Post.seq ?_ | refine Post.seq_ret ?_ | refine Post.seq_exit ?_ | refine Post.hit ?_ | refine Post.pass rfl ?_ | refine Post.blk ?_ | refine Post.blk_ret ?_ | refine Post.again_exit ?_ | refine Post.again_ret ?_ | refine Post.np ?_)
    | refine SW.nil ?_
    | (show SW _ _ _ _ (⟨_, _, _, _, _, some _⟩ :: _) _ _; first | refine SW.want_t rfl rfl (by with_reducible rfl) ?_ | refine SW.want_f rfl rfl (by with_reducible rfl) ?_ | refine SW.skip_t rfl rfl (by with_reducible rfl) rfl ?_ | refine SW.skip_f rfl rfl (by with_reducible rfl) rfl ?_ | refine SW.skip_u rfl rfl (by with_reducible rfl) rfl ?_ | refine SW.splitd_t rfl rfl rfl (by omega) ?_ | refine SW.splitd_f rfl rfl rfl (by omega) ?_ | refine SW.splitn_t rfl rfl rfl (by omega) ?_ | refine SW.splitn_f rfl rfl rfl (by omega) ?_ | refine SW.splitd rfl rfl rfl (fun h => ?_) (fun h => ?_) | refine SW.splitn rfl rfl rfl (fun h => ?_) (fun h => ?_) | refine SW.want rfl rfl ?_ | refine SW.skip rfl rfl rfl rfl ?_ | refine SW.skipu rfl rfl rfl ?_ | refine SW.split rfl rfl rfl (fun h => ?_) (fun h => ?_))
    | refine SW.pure rfl rfl ?_
    | (show SW _ _ _ _ (⟨_, Op.fieldAddr _ _ _, _, _, _, none⟩ :: _) _ _; refine SW.st (st_field rfl) rfl ?_)
    | (show SW _ _ _ _ (⟨_, Op.nilCheck _, _, _, _, none⟩ :: _) _ _; refine SW.st (st_nilCheck rfl) rfl ?_)
    | (show SW _ _ _ _ (⟨_, Op.build _ _, _, _, _, none⟩ :: _) _ _; refine SW.st (st_build rfl rfl) rfl ?_)
    | (show SW _ _ _ _ (⟨_, Op.binOp _ _ _ _ _, _, _, _, none⟩ :: _) _ _; first | refine SW.st (st_add rfl rfl (by omega) (by omega)) rfl ?_ | refine SW.st (st_sub rfl rfl (by omega) (by omega)) rfl ?_ | refine SW.st (st_mul rfl rfl (by omega) (by omega)) rfl ?_ | refine SW.st (st_quo rfl rfl (by omega) (by omega) (by omega)) rfl ?_ | refine SW.st (st_rem rfl rfl (by omega)) rfl ?_)
    | (show SW _ _ _ _ (⟨_, Op.indexAddr _ _ _, _, _, _, none⟩ :: _) _ _; refine SW.st (st_indexN rfl rfl (by assumption) (by omega)) rfl ?_)
    | (show SW _ _ _ _ (⟨_, Op.call ⟨.builtin .len, _, _⟩, _, _, _, none⟩ :: _) _ _; refine SW.st (st_len rfl) rfl ?_)
    | (show SW _ _ _ _ (⟨_, Op.call ⟨.builtin .cap, _, _⟩, _, _, _, none⟩ :: _) _ _; refine SW.st (st_cap rfl) rfl ?_)
    | (show SW _ _ _ _ (⟨_, Op.load _ _, _, _, _, none⟩ :: _) _ _; first | refine SW.st (st_loads rfl rfl ((fun _ _ => hB5.cell))) rfl ?_ | refine SW.st (st_loadsx hw rfl rfl ((fun _ _ => hB5.cell))) rfl ?_ | refine SW.st (st_loads rfl rfl ((fun _ _ => hB3.cell))) rfl ?_ | refine SW.st (st_loadsx hw rfl rfl ((fun _ _ => hB3.cell))) rfl ?_))
  refine SW.call rfl rfl (BRemove_ans _ _ _ _ _ _ x y r N hN _ hX.sl hY.sl hn hm) fun v w3 hw3 hv => ?_
  rw [ho] at hv
  obtain ⟨u, rfl, A6, n6, c6, B6, m6, d6, rfl, h6, h6'⟩ := hv
  replace hw := Ext.trans hw hw3
  replace hB := hB.ext hw3
  replace hB3 := hB3.ext hw3
  replace hB5 := hB5.ext hw3
  replace hX := hX.ext hw3
  replace hY := hY.ext hw3
  repeat' (first
    | (show CW _ _ _ _ _ _; first | refine CW.seq ?_ | refine CW.region ?_ | refine CW.block ?_ | refine CW.condtr rfl (by with_reducible rfl) ?_ | refine CW.condfr rfl (by with_reducible rfl) ?_ | refine CW.condd_t rfl (by omega) ?_ | refine CW.condd_f rfl (by omega) ?_ | refine CW.condn_t rfl (by omega) ?_ | refine CW.condn_f rfl (by omega) ?_ | refine CW.condd rfl (fun h => ?_) (fun h => ?_) | refine CW.condn rfl (fun h => ?_) (fun h => ?_) | refine CW.condt rfl ?_ | refine CW.condf rfl ?_ | refine CW.cond rfl (fun h => ?_) (fun h => ?_) | refine CW.skip ?_ | refine CW.ret ?_ | refine CW.exit ?_)
    | (show Post _ _ _ _ _; first | refine Post.seq ?_ | refine Post.seq_ret ?_ | refine Post.seq_exit ?_ | refine Post.hit ?_ | refine Post.pass rfl ?_ | refine Post.blk ?_ | refine Post.blk_ret ?_ | refine Post.again_exit ?_ | refine Post.again_ret ?_ | refine Post.np ?_)
    | refine SW.nil ?_
    | (show SW _ _ _ _ (⟨_, _, _, _, _, some _⟩ :: _) _ _; first | refine SW.want_t rfl rfl (by with_reducible rfl) ?_ | refine SW.want_f rfl rfl (by with_reducible rfl) ?_ | refine SW.skip_t rfl rfl (by with_reducible rfl) rfl ?_ | refine SW.skip_f rfl rfl (by with_reducible rfl) rfl ?_ | refine SW.skip_u rfl rfl (by with_reducible rfl) rfl ?_ | refine SW.splitd_t rfl rfl rfl (by omega) ?_ | refine SW.splitd_f rfl rfl rfl (by omega) ?_ | refine SW.splitn_t rfl rfl rfl (by omega) ?_ | refine SW.splitn_f rfl rfl rfl (by omega) ?_ | refine SW.splitd rfl rfl rfl (fun h => ?_) (fun h => ?_) | refine SW.splitn rfl rfl rfl (fun h => ?_) (fun h => ?_) | refine SW.want rfl rfl ?_ | refine SW.skip rfl rfl rfl rfl ?_ | refine SW.skipu rfl rfl rfl ?_ | refine SW.split rfl rfl rfl (fun h => ?_) (fun h => ?_))
    | refine SW.pure rfl rfl ?_
    | (show SW _ _ _ _ (⟨_, Op.fieldAddr _ _ _, _, _, _, none⟩ :: _) _ _; refine SW.st (st_field rfl) rfl ?_)
    | (show SW _ _ _ _ (⟨_, Op.nilCheck _, _, _, _, none⟩ :: _) _ _; refine SW.st (st_nilCheck rfl) rfl ?_)
    | (show SW _ _ _ _ (⟨_, Op.build _ _, _, _, _, none⟩ :: _) _ _; refine SW.st (st_build rfl rfl) rfl ?_)
    | (show SW _ _ _ _ (⟨_, Op.binOp _ _ _ _ _, _, _, _, none⟩ :: _) _ _; first | refine SW.st (st_add rfl rfl (by omega) (by omega)) rfl ?_ | refine SW.st (st_sub rfl rfl (by omega) (by omega)) rfl ?_ | refine SW.st (st_mul rfl rfl (by omega) (by omega)) rfl ?_ | refine SW.st (st_quo rfl rfl (by omega) (by omega) (by omega)) rfl ?_ | refine SW.st (st_rem rfl rfl (by omega)) rfl ?_)
    | (show SW _ _ _ _ (⟨_, Op.indexAddr _ _ _, _, _, _, none⟩ :: _) _ _; refine SW.st (st_indexN rfl rfl (by assumption) (by omega)) rfl ?_)
    | (show SW _ _ _ _ (⟨_, Op.call ⟨.builtin .len, _, _⟩, _, _, _, none⟩ :: _) _ _; refine SW.st (st_len rfl) rfl ?_)
    | (show SW _ _ _ _ (⟨_, Op.call ⟨.builtin .cap, _, _⟩, _, _, _, none⟩ :: _) _ _; refine SW.st (st_cap rfl) rfl ?_))
  refine SW.alloc rfl fun b6 w3 hw3 hb6 hB6 => ?_
  have hb6w : w.heap.size ≤ b6 := Nat.le_trans hw.size hb6
  have hne1 : b ≠ b6 := by have := hB.lt; omega
  have hne3 : b3 ≠ b6 := by have := hB3.lt; omega
  have hne5 : b5 ≠ b6 := by have := hB5.lt; omega
  replace hw := Ext.trans hw hw3
  replace hB := hB.ext hw3
  replace hB3 := hB3.ext hw3
  replace hB5 := hB5.ext hw3
  replace hX := hX.ext hw3
  replace hY := hY.ext hw3
  replace h6 := h6.ext hw3
  replace h6' := h6'.ext hw3
  refine SW.storeAgg hB6 rfl rfl rfl rfl (one_boot _ _ _ _ _ _) fun w4 hB6' hg => ?_
  replace hw := hw.own hb6w hg
  replace hX := hX.grown hg (.inr (hX.ne_blk hB6 rfl))
  replace hY := hY.grown hg (.inr (hY.ne_blk hB6 rfl))
  replace h6 := h6.grown hg (.inr (h6.ne_blk hB6 rfl))
  replace h6' := h6'.grown hg (.inr (h6'.ne_blk hB6 rfl))
  replace hB := hB.grown hg (by simpa using hne1)
  replace hB3 := hB3.grown hg (by simpa using hne3)
  replace hB5 := hB5.grown hg (by simpa using hne5)
  replace hB6 := hB6'
  clear hB6'
  repeat' (first
    | (show CW _ _ _ _ _ _; first | refine CW.seq ?_ | refine CW.region ?_ | refine CW.block ?_ | refine CW.condtr rfl (by with_reducible rfl) ?_ | refine CW.condfr rfl (by with_reducible rfl) ?_ | refine CW.condd_t rfl (by omega) ?_ | refine CW.condd_f rfl (by omega) ?_ | refine CW.condn_t rfl (by omega) ?_ | refine CW.condn_f rfl (by omega) ?_ | refine CW.condd rfl (fun h => ?_) (fun h => ?_) | refine CW.condn rfl (fun h => ?_) (fun h => ?_) | refine CW.condt rfl ?_ | refine CW.condf rfl ?_ | refine CW.cond rfl (fun h => ?_) (fun h => ?_) | refine CW.skip ?_ | refine CW.ret ?_ | refine CW.exit ?_)
    | (show Post _ _ _ _ _; first | refine Post.seq ?_ | refine Post.seq_ret ?_ | refine Post.seq_exit ?_ | refine Post.hit ?_ | refine Post.pass rfl ?_ | refine Post.blk ?_ | refine Post.blk_ret ?_ | refine Post.again_exit ?_ | refine Post.again_ret ?_ | refine Post.np ?_)
    | refine SW.nil ?_
    | (show SW _ _ _ _ (⟨_, _, _, _, _, some _⟩ :: _) _ _; first | refine SW.want_t rfl rfl (by with_reducible rfl) ?_ | refine SW.want_f rfl rfl (by with_reducible rfl) ?_ | refine SW.skip_t rfl rfl (by with_reducible rfl) rfl ?_ | refine SW.skip_f rfl rfl (by with_reducible rfl) rfl ?_ | refine SW.skip_u rfl rfl (by with_reducible rfl) rfl ?_ | refine SW.splitd_t rfl rfl rfl (by omega) ?_ | refine SW.splitd_f rfl rfl rfl (by omega) ?_ | refine SW.splitn_t rfl rfl rfl (by omega) ?_ | refine SW.splitn_f rfl rfl rfl (by omega) ?_ | refine SW.splitd rfl rfl rfl (fun h => ?_) (fun h => ?_) | refine SW.splitn rfl rfl rfl (fun h => ?_) (fun h => ?_) | refine SW.want rfl rfl ?_ | refine SW.skip rfl rfl rfl rfl ?_ | refine SW.skipu rfl rfl rfl ?_ | refine SW.split rfl rfl rfl (fun h => ?_) (fun h => ?_))
    | refine SW.pure rfl rfl ?_
    | (show SW _ _ _ _ (⟨_, Op.fieldAddr _ _ _, _, _, _, none⟩ :: _) _ _; refine SW.st (st_field rfl) rfl ?_)
    | (show SW _ _ _ _ (⟨_, Op.nilCheck _, _, _, _, none⟩ :: _) _ _; refine SW.st (st_nilCheck rfl) rfl ?_)
    | (show SW _ _ _ _ (⟨_, Op.build _ _, _, _, _, none⟩ :: _) _ _; refine SW.st (st_build rfl rfl) rfl ?_)
    | (show SW _ _ _ _ (⟨_, Op.binOp _ _ _ _ _, _, _, _, none⟩ :: _) _ _; first | refine SW.st (st_add rfl rfl (by omega) (by omega)) rfl ?_ | refine SW.st (st_sub rfl rfl (by omega) (by omega)) rfl ?_ | refine SW.st (st_mul rfl rfl (by omega) (by omega)) rfl ?_ | refine SW.st (st_quo rfl rfl (by omega) (by omega) (by omega)) rfl ?_ | refine SW.st (st_rem rfl rfl (by omega)) rfl ?_)
    | (show SW _ _ _ _ (⟨_, Op.indexAddr _ _ _, _, _, _, none⟩ :: _) _ _; refine SW.st (st_indexN rfl rfl (by assumption) (by omega)) rfl ?_)
    | (show SW _ _ _ _ (⟨_, Op.call ⟨.builtin .len, _, _⟩, _, _, _, none⟩ :: _) _ _; refine SW.st (st_len rfl) rfl ?_)
    | (show SW _ _ _ _ (⟨_, Op.call ⟨.builtin .cap, _, _⟩, _, _, _, none⟩ :: _) _ _; refine SW.st (st_cap rfl) rfl ?_)
    | (show SW _ _ _ _ (⟨_, Op.load _ _, _, _, _, none⟩ :: _) _ _; first | refine SW.st (st_loads rfl rfl ((fun _ _ => hB.cell))) rfl ?_ | refine SW.st (st_loadsx hw rfl rfl ((fun _ _ => hB.cell))) rfl ?_ | refine SW.st (st_loads rfl rfl ((fun _ _ => hB3.cell))) rfl ?_ | refine SW.st (st_loadsx hw rfl rfl ((fun _ _ => hB3.cell))) rfl ?_))
  refine SW.call rfl rfl (ChangedOf_ans _ _ _ _ _ _ x y r _ _ N hN _ (hx.ext hw) (hy.ext hw) hn hm) fun v w3 hw3 hv => ?_
  rw [ho] at hv
  obtain ⟨u, rfl, A8, n8, c8, B8, m8, d8, rfl, h8, h8'⟩ := hv
  replace hw := Ext.trans hw hw3
  replace hB := hB.ext hw3
  replace hB5 := hB5.ext hw3
  replace hB6 := hB6.ext hw3
  replace hX := hX.ext hw3
  replace hY := hY.ext hw3
  replace h6 := h6.ext hw3
  replace h6' := h6'.ext hw3
  repeat' (first
    | (show CW _ _ _ _ _ _; first | refine CW.seq ?_ | refine CW.region ?_ | refine CW.block ?_ | refine CW.condtr rfl (by with_reducible rfl) ?_ | refine CW.condfr rfl (by with_reducible rfl) ?_ | refine CW.condd_t rfl (by omega) ?_ | refine CW.condd_f rfl (by omega) ?_ | refine CW.condn_t rfl (by omega) ?_ | refine CW.condn_f rfl (by omega) ?_ | refine CW.condd rfl (fun h => ?_) (fun h => ?_) | refine CW.condn rfl (fun h => ?_) (fun h => ?_) | refine CW.condt rfl ?_ | refine CW.condf rfl ?_ | refine CW.cond rfl (fun h => ?_) (fun h => ?_) | refine CW.skip ?_ | refine CW.ret ?_ | refine CW.exit ?_)
    | (show Post _ _ _ _ _; first | refine Post.seq ?_ | refine Post.seq_ret ?_ | refine Post.seq_exit ?_ | refine Post.hit ?_ | refine Post.pass rfl ?_ | refine Post.blk ?_ | refine Post.blk_ret ?_ | refine Post.again_exit ?_ | refine Post.again_ret ?_ | refine Post.np ?_)
    | refine SW.nil ?_
    | (show SW _ _ _ _ (⟨_, _, _, _, _, some _⟩ :: _) _ _; first | refine SW.want_t rfl rfl (by with_reducible rfl) ?_ | refine SW.want_f rfl rfl (by with_reducible rfl) ?_ | refine SW.skip_t rfl rfl (by with_reducible rfl) rfl ?_ | refine SW.skip_f rfl rfl (by with_reducible rfl) rfl ?_ | refine SW.skip_u rfl rfl (by with_reducible rfl) rfl ?_ | refine SW.splitd_t rfl rfl rfl (by omega) ?_ | refine SW.splitd_f rfl rfl rfl (by omega) ?_ | refine SW.splitn_t rfl rfl rfl (by omega) ?_ | refine SW.splitn_f rfl rfl rfl (by omega) ?_ | refine SW.splitd rfl rfl rfl (fun h => ?_) (fun h => ?_) | refine SW.splitn rfl rfl rfl (fun h => ?_) (fun h => ?_) | refine SW.want rfl rfl ?_ | refine SW.skip rfl rfl rfl rfl ?_ | refine SW.skipu rfl rfl rfl ?_ | refine SW.split rfl rfl rfl (fun h => ?_) (fun h => ?_))
    | refine SW.pure rfl rfl ?_
    | (show SW _ _ _ _ (⟨_, Op.fieldAddr _ _ _, _, _, _, none⟩ :: _) _ _; refine SW.st (st_field rfl) rfl ?_)
    | (show SW _ _ _ _ (⟨_, Op.nilCheck _, _, _, _, none⟩ :: _) _ _; refine SW.st (st_nilCheck rfl) rfl ?_)
    | (show SW _ _ _ _ (⟨_, Op.build _ _, _, _, _, none⟩ :: _) _ _; refine SW.st (st_build rfl rfl) rfl ?_)
    | (show SW _ _ _ _ (⟨_, Op.binOp _ _ _ _ _, _, _, _, none⟩ :: _) _ _; first | refine SW.st (st_add rfl rfl (by omega) (by omega)) rfl ?_ | refine SW.st (st_sub rfl rfl (by omega) (by omega)) rfl ?_ | refine SW.st (st_mul rfl rfl (by omega) (by omega)) rfl ?_ | refine SW.st (st_quo rfl rfl (by omega) (by omega) (by omega)) rfl ?_ | refine SW.st (st_rem rfl rfl (by omega)) rfl ?_)
    | (show SW _ _ _ _ (⟨_, Op.indexAddr _ _ _, _, _, _, none⟩ :: _) _ _; refine SW.st (st_indexN rfl rfl (by assumption) (by omega)) rfl ?_)
    | (show SW _ _ _ _ (⟨_, Op.call ⟨.builtin .len, _, _⟩, _, _, _, none⟩ :: _) _ _; refine SW.st (st_len rfl) rfl ?_)
    | (show SW _ _ _ _ (⟨_, Op.call ⟨.builtin .cap, _, _⟩, _, _, _, none⟩ :: _) _ _; refine SW.st (st_cap rfl) rfl ?_))
  refine SW.alloc rfl fun b8 w3 hw3 hb8 hB8 => ?_
  have hb8w : w.heap.size ≤ b8 := Nat.le_trans hw.size hb8
  have hne1 : b ≠ b8 := by have := hB.lt; omega
  have hne5 : b5 ≠ b8 := by have := hB5.lt; omega
  have hne6 : b6 ≠ b8 := by have := hB6.lt; omega
  replace hw := Ext.trans hw hw3
  replace hB := hB.ext hw3
  replace hB5 := hB5.ext hw3
  replace hB6 := hB6.ext hw3
  replace hX := hX.ext hw3
  replace hY := hY.ext hw3
  replace h6 := h6.ext hw3
  replace h6' := h6'.ext hw3
  replace h8 := h8.ext hw3
  replace h8' := h8'.ext hw3
  refine SW.storeAgg hB8 rfl rfl rfl rfl (one_boot _ _ _ _ _ _) fun w4 hB8' hg => ?_
  replace hw := hw.own hb8w hg
  replace hX := hX.grown hg (.inr (hX.ne_blk hB8 rfl))
  replace hY := hY.grown hg (.inr (hY.ne_blk hB8 rfl))
  replace h6 := h6.grown hg (.inr (h6.ne_blk hB8 rfl))
  replace h6' := h6'.grown hg (.inr (h6'.ne_blk hB8 rfl))
  replace h8 := h8.grown hg (.inr (h8.ne_blk hB8 rfl))
  replace h8' := h8'.grown hg (.inr (h8'.ne_blk hB8 rfl))
  replace hB := hB.grown hg (by simpa using hne1)
  replace hB5 := hB5.grown hg (by simpa using hne5)
  replace hB6 := hB6.grown hg (by simpa using hne6)
  replace hB8 := hB8'
  clear hB8'
  obtain ⟨o0, o1, o2⟩ := o
  simp only at h6 h6' h8 h8' hle
  have s1 : ∀ w', Ext w w' → Sl w' 2 encR A6 n6 o1 → Sl w' 2 encR B6 m6 o2 → Sl w' 2 encR A8 n8 o1 → Sl w' 2 encR B8 m8 o2 → Ans Try.prog 39 [.agg (bootCells A6 n6 c6 B6 m6 d6).toArray, .agg (bootCells A8 n8 c8 B8 m8 d8).toArray] w' fun v _ => v = .bool true := fun w' _ a1 a2 a3 a4 => by
    have := sameBoot_ans A6 n6 c6 B6 m6 d6 A8 n8 c8 B8 m8 d8 o1 o2 o1 o2 w' a1 a2 a3 a4 (by have := a1.len; omega) (by have := a2.len; omega)
    simpa using this
  have s2 : ∀ w', Ext w w' → Sl w' 2 encR Ak nk x → Sl w' 2 encR Bk mk y → Ans Try.prog 39 [.agg (bootCells Ak nk ck Bk mk dk).toArray, .agg (bootCells A nk c B mk d).toArray] w' fun v _ => v = .bool true := fun w' h a1 a2 => by
    have := sameBoot_ans Ak nk ck Bk mk dk A nk c B mk d x y x y w' a1 a2 (hx.ext h) (hy.ext h) (by omega) (by omega)
    simpa using this
  repeat' (first
    | (show CW _ _ _ _ _ _; first | refine CW.seq ?_ | refine CW.region ?_ | refine CW.block ?_ | refine CW.condtr rfl (by with_reducible rfl) ?_ | refine CW.condfr rfl (by with_reducible rfl) ?_ | refine CW.condd_t rfl (by omega) ?_ | refine CW.condd_f rfl (by omega) ?_ | refine CW.condn_t rfl (by omega) ?_ | refine CW.condn_f rfl (by omega) ?_ | refine CW.condd rfl (fun h => ?_) (fun h => ?_) | refine CW.condn rfl (fun h => ?_) (fun h => ?_) | refine CW.condt rfl ?_ | refine CW.condf rfl ?_ | refine CW.cond rfl (fun h => ?_) (fun h => ?_) | refine CW.skip ?_ | refine CW.ret ?_ | refine CW.exit ?_)
    | (show Post _ _ _ _ _; first | refine Post.seq ?_ | refine Post.seq_ret ?_ | refine Post.seq_exit ?_ | refine Post.hit ?_ | refine Post.pass rfl ?_ | refine Post.blk ?_ | refine Post.blk_ret ?_ | refine Post.again_exit ?_ | refine Post.again_ret ?_ | refine Post.np ?_)
    | refine SW.nil ?_
    | (show SW _ _ _ _ (⟨_, _, _, _, _, some _⟩ :: _) _ _; first | refine SW.want_t rfl rfl (by with_reducible rfl) ?_ | refine SW.want_f rfl rfl (by with_reducible rfl) ?_ | refine SW.skip_t rfl rfl (by with_reducible rfl) rfl ?_ | refine SW.skip_f rfl rfl (by with_reducible rfl) rfl ?_ | refine SW.skip_u rfl rfl (by with_reducible rfl) rfl ?_ | refine SW.splitd_t rfl rfl rfl (by omega) ?_ | refine SW.splitd_f rfl rfl rfl (by omega) ?_ | refine SW.splitn_t rfl rfl rfl (by omega) ?_ | refine SW.splitn_f rfl rfl rfl (by omega) ?_ | refine SW.splitd rfl rfl rfl (fun h => ?_) (fun h => ?_) | refine SW.splitn rfl rfl rfl (fun h => ?_) (fun h => ?_) | refine SW.want rfl rfl ?_ | refine SW.skip rfl rfl rfl rfl ?_ | refine SW.skipu rfl rfl rfl ?_ | refine SW.split rfl rfl rfl (fun h => ?_) (fun h => ?_))
    | refine SW.pure rfl rfl ?_
    | (show SW _ _ _ _ (⟨_, Op.fieldAddr _ _ _, _, _, _, none⟩ :: _) _ _; refine SW.st (st_field rfl) rfl ?_)
    | (show SW _ _ _ _ (⟨_, Op.nilCheck _, _, _, _, none⟩ :: _) _ _; refine SW.st (st_nilCheck rfl) rfl ?_)
    | (show SW _ _ _ _ (⟨_, Op.build _ _, _, _, _, none⟩ :: _) _ _; refine SW.st (st_build rfl rfl) rfl ?_)
    | (show SW _ _ _ _ (⟨_, Op.binOp _ _ _ _ _, _, _, _, none⟩ :: _) _ _; first | refine SW.st (st_add rfl rfl (by omega) (by omega)) rfl ?_ | refine SW.st (st_sub rfl rfl (by omega) (by omega)) rfl ?_ | refine SW.st (st_mul rfl rfl (by omega) (by omega)) rfl ?_ | refine SW.st (st_quo rfl rfl (by omega) (by omega) (by omega)) rfl ?_ | refine SW.st (st_rem rfl rfl (by omega)) rfl ?_)
    | (show SW _ _ _ _ (⟨_, Op.indexAddr _ _ _, _, _, _, none⟩ :: _) _ _; refine SW.st (st_indexN rfl rfl (by assumption) (by omega)) rfl ?_)
    | (show SW _ _ _ _ (⟨_, Op.call ⟨.builtin .len, _, _⟩, _, _, _, none⟩ :: _) _ _; refine SW.st (st_len rfl) rfl ?_)
    | (show SW _ _ _ _ (⟨_, Op.call ⟨.builtin .cap, _, _⟩, _, _, _, none⟩ :: _) _ _; refine SW.st (st_cap rfl) rfl ?_)
    | (show SW _ _ _ _ (⟨_, Op.load _ _, _, _, _, none⟩ :: _) _ _; first | refine SW.st (st_loads rfl rfl ((fun _ _ => hB6.cell))) rfl ?_ | refine SW.st (st_loadsx hw rfl rfl ((fun _ _ => hB6.cell))) rfl ?_ | refine SW.st (st_loads rfl rfl ((fun _ _ => hB8.cell))) rfl ?_ | refine SW.st (st_loadsx hw rfl rfl ((fun _ _ => hB8.cell))) rfl ?_ | refine SW.st (st_loads rfl rfl ((fun _ _ => hB5.cell))) rfl ?_ | refine SW.st (st_loadsx hw rfl rfl ((fun _ _ => hB5.cell))) rfl ?_ | refine SW.st (st_loads rfl rfl ((fun _ _ => hB.cell))) rfl ?_ | refine SW.st (st_loadsx hw rfl rfl ((fun _ _ => hB.cell))) rfl ?_)
    | (show SW _ _ _ _ (⟨_, Op.call ⟨.value (.func _), _, _⟩, _, _, _, none⟩ :: _) _ _; first | (refine SW.call rfl rfl (s1 _ hw h6.sl h6'.sl h8.sl h8'.sl) ?_; intro v w1 hw1 hv; subst hv; replace hw := Ext.trans hw hw1; replace hB := hB.ext hw1; replace hB5 := hB5.ext hw1; replace hB6 := hB6.ext hw1; replace hB8 := hB8.ext hw1; replace hX := hX.ext hw1; replace hY := hY.ext hw1; replace h6 := h6.ext hw1; replace h6' := h6'.ext hw1; replace h8 := h8.ext hw1; replace h8' := h8'.ext hw1; clear hw1) | (refine SW.call rfl rfl (s2 _ hw hX.sl hY.sl) ?_; intro v w1 hw1 hv; subst hv; replace hw := Ext.trans hw hw1; replace hB := hB.ext hw1; replace hB5 := hB5.ext hw1; replace hB6 := hB6.ext hw1; replace hB8 := hB8.ext hw1; replace hX := hX.ext hw1; replace hY := hY.ext hw1; replace h6 := h6.ext hw1; replace h6' := h6'.ext hw1; replace h8 := h8.ext hw1; replace h8' := h8'.ext hw1; clear hw1)))
  exact Post.ret1 rfl rfl ⟨_, rfl, hw, rfl⟩


theorem lawBootReserves_ans (A : Option Addr) (n c : Nat) (B : Option Addr) (m d : Nat) (x y : List Region) (r : Region) (w : World) (hx : Sl w 2 encR A n x) (hy : Sl w 2 encR B m y) (hn : n * 16 ≤ 140737488355328) (hm : m * 16 ≤ 140737488355328) :
    Ans Try.prog 11 [.agg (bootCells A n c B m d).toArray, .agg (encR r).toArray] w fun v _ => v = .bool true := by
  refine ans_of Try.func11 rfl Try.ntmps11 rfl ?_
  obtain ⟨N, hN⟩ : ∃ N : Nat, N = 256 := ⟨_, rfl⟩
  have hle := changeV_le (N := N) (x := x) (y := y) (r := r) (res := true) (wth := true) hN (by have := hx.len; omega) (by have := hy.len; omega)
  obtain ⟨o, ho⟩ : ∃ o, changeV N x y r true true = o := ⟨_, rfl⟩
  rw [ho] at hle
  refine CW.seq (CW.region (SW.box rfl rfl fun b w1 hw hb hB => ?_))
  refine SW.box rfl rfl fun b3 w2 hw2 hb3 hB3 => ?_
  replace hw := Ext.trans hw hw2
  replace hB := hB.ext hw2
  repeat' (first
    | (show CW _ _ _ _ _ _; first | refine CW.seq ?_ | refine CW.region ?_ | refine CW.block ?_ | refine CW.condtr rfl (by with_reducible rfl) ?_ | refine CW.condfr rfl (by with_reducible rfl) ?_ | refine CW.condd_t rfl (by omega) ?_ | refine CW.condd_f rfl (by omega) ?_ | refine CW.condn_t rfl (by omega) ?_ | refine CW.condn_f rfl (by omega) ?_ | refine CW.condd rfl (fun h => ?_) (fun h => ?_) | refine CW.condn rfl (fun h => ?_) (fun h => ?_) | refine CW.condt rfl ?_ | refine CW.condf rfl ?_ | refine CW.cond rfl (fun h => ?_) (fun h => ?_) | refine CW.skip ?_ | refine CW.ret ?_ | refine CW.exit ?_)
    | (show Post _ _ _ _ _; first | refine Post.seq ?_ | refine Post.seq_ret ?_ | refine Post.seq_exit ?_ | refine Post.hit ?_ | refine Post.pass rfl ?_ | refine Post.blk ?_ | refine Post.blk_ret ?_ | refine Post.again_exit ?_ | refine Post.again_ret ?_ | refine Post.np ?_)
    | refine SW.nil ?_
    | (show SW _ _ _ _ (⟨_, _, _, _, _, some _⟩ :: _) _ _; first | refine SW.want_t rfl rfl (by with_reducible rfl) ?_ | refine SW.want_f rfl rfl (by with_reducible rfl) ?_ | refine SW.skip_t rfl rfl (by with_reducible rfl) rfl ?_ | refine SW.skip_f rfl rfl (by with_reducible rfl) rfl ?_ | refine SW.skip_u rfl rfl (by with_reducible rfl) rfl ?_ | refine SW.splitd_t rfl rfl rfl (by omega) ?_ | refine SW.splitd_f rfl rfl rfl (by omega) ?_ | refine SW.splitn_t rfl rfl rfl (by omega) ?_ | refine SW.splitn_f rfl rfl rfl (by omega) ?_ | refine SW.splitd rfl rfl rfl (fun h => ?_) (fun h => ?_) | refine SW.splitn rfl rfl rfl (fun h => ?_) (fun h => ?_) | refine SW.want rfl rfl ?_ | refine SW.skip rfl rfl rfl rfl ?_ | refine SW.skipu rfl rfl rfl ?_ | refine SW.split rfl rfl rfl (fun h => ?_) (fun h => ?_))
    | refine SW.pure rfl rfl ?_
    | (show SW _ _ _ _ (⟨_, Op.fieldAddr _ _ _, _, _, _, none⟩ :: _) _ _; refine SW.st (st_field rfl) rfl ?_)
    | (show SW _ _ _ _ (⟨_, Op.nilCheck _, _, _, _, none⟩ :: _) _ _; refine SW.st (st_nilCheck rfl) rfl ?_)
    | (show SW _ _ _ _ (⟨_, Op.build _ _, _, _, _, none⟩ :: _) _ _; refine SW.st (st_build rfl rfl) rfl ?_)
    | (show SW _ _ _ _ (⟨_, Op.binOp _ _ _ _ _, _, _, _, none⟩ :: _) _ _; first | refine SW.st (st_add rfl rfl (by omega) (by omega)) rfl ?_ | refine SW.st (st_sub rfl rfl (by omega) (by omega)) rfl ?_ | refine SW.st (st_mul rfl rfl (by omega) (by omega)) rfl ?_ | refine SW.st (st_quo rfl rfl (by omega) (by omega) (by omega)) rfl ?_ | refine SW.st (st_rem rfl rfl (by omega)) rfl ?_)
    | (show SW _ _ _ _ (⟨_, Op.indexAddr _ _ _, _, _, _, none⟩ :: _) _ _; refine SW.st (st_indexN rfl rfl (by assumption) (by omega)) rfl ?_)
    | (show SW _ _ _ _ (⟨_, Op.call ⟨.builtin .len, _, _⟩, _, _, _, none⟩ :: _) _ _; refine SW.st (st_len rfl) rfl ?_)
    | (show SW _ _ _ _ (⟨_, Op.call ⟨.builtin .cap, _, _⟩, _, _, _, none⟩ :: _) _ _; refine SW.st (st_cap rfl) rfl ?_)
    | (show SW _ _ _ _ (⟨_, Op.load _ _, _, _, _, none⟩ :: _) _ _; first | refine SW.st (st_loads rfl rfl ((fun _ _ => hB.cell))) rfl ?_ | refine SW.st (st_loadsx hw rfl rfl ((fun _ _ => hB.cell))) rfl ?_))
  refine SW.call rfl rfl (boots_ans _ _ _ _ _ _ _ _ _ (hx.ext hw) (hy.ext hw) hn hm) fun v w3 hw3 hv => ?_
  obtain ⟨Ak, nk, ck, Bk, mk, dk, rfl, hX, hY⟩ := hv
  replace hX := hX.low hw.size
  replace hY := hY.low hw.size
  obtain rfl : nk = n := by rw [← hX.len, ← hx.len]
  obtain rfl : mk = m := by rw [← hY.len, ← hy.len]
  replace hw := Ext.trans hw hw3
  replace hB := hB.ext hw3
  replace hB3 := hB3.ext hw3
  refine SW.alloc rfl fun b5 w3 hw3 hb5 hB5 => ?_
  have hb5w : w.heap.size ≤ b5 := Nat.le_trans hw.size hb5
  have hne1 : b ≠ b5 := by have := hB.lt; omega
  have hne3 : b3 ≠ b5 := by have := hB3.lt; omega
  replace hw := Ext.trans hw hw3
  replace hB := hB.ext hw3
  replace hB3 := hB3.ext hw3
  replace hX := hX.ext hw3
  replace hY := hY.ext hw3
  refine SW.storeAgg hB5 rfl rfl rfl rfl (one_boot _ _ _ _ _ _) fun w4 hB5' hg => ?_
  replace hw := hw.own hb5w hg
  replace hX := hX.grown hg (.inr (hX.ne_blk hB5 rfl))
  replace hY := hY.grown hg (.inr (hY.ne_blk hB5 rfl))
  replace hB := hB.grown hg (by simpa using hne1)
  replace hB3 := hB3.grown hg (by simpa using hne3)
  replace hB5 := hB5'
  clear hB5'
  repeat' (first
    | (show CW _ _ _ _ _ _; first | refine CW.seq ?_ | refine CW.region ?_ | refine CW.block ?_ | refine CW.condtr rfl (by with_reducible rfl) ?_ | refine CW.condfr rfl (by with_reducible rfl) ?_ | refine CW.condd_t rfl (by omega) ?_ | refine CW.condd_f rfl (by omega) ?_ | refine CW.condn_t rfl (by omega) ?_ | refine CW.condn_f rfl (by omega) ?_ | refine CW.condd rfl (fun h => ?_) (fun h => ?_) | refine CW.condn rfl (fun h => ?_) (fun h => ?_) | refine CW.condt rfl ?_ | refine CW.condf rfl ?_ | refine CW.cond rfl (fun h => ?_) (fun h => ?_) | refine CW.skip ?_ | refine CW.ret ?_ | refine CW.exit ?_)
    | (show Post _ _ _ _ _; first | refine Post.seq ?_ | refine Post.seq_ret ?_ | refine Post.seq_exit ?_ | refine Post.hit ?_ | refine Post.pass rfl ?_ | refine Post.blk ?_ | refine Post.blk_ret ?_ | refine Post.again_exit ?_ | refine Post.again_ret ?_ | refine Post.np ?_)
    | refine SW.nil ?_
    | (show SW _ _ _ _ (⟨_, _, _, _, _, some _⟩ :: _) _ _; first | refine SW.want_t rfl rfl (by with_reducible rfl) ?_ | refine SW.want_f rfl rfl (by with_reducible rfl) ?_ | refine SW.skip_t rfl rfl (by with_reducible rfl) rfl ?_ | refine SW.skip_f rfl rfl (by with_reducible rfl) rfl ?_ | refine SW.skip_u rfl rfl (by with_reducible rfl) rfl ?_ | refine SW.splitd_t rfl rfl rfl (by omega) ?_ | refine SW.splitd_f rfl rfl rfl (by omega) ?_ | refine SW.splitn_t rfl rfl rfl (by omega) ?_ | refine SW.splitn_f rfl rfl rfl (by omega) ?_ | refine SW.splitd rfl rfl rfl (fun h => ?_) (fun h => ?_) | refine SW.splitn rfl rfl rfl (fun h => ?_) (fun h => ?_) | refine SW.want rfl rfl ?_ | refine SW.skip rfl rfl rfl rfl ?_ | refine SW.skipu rfl rfl rfl ?_ | refine SW.split rfl rfl rfl (fun h => ?_) (fun h => ?_))
    | refine SW.pure rfl rfl ?_
    | (show SW _ _ _ _ (⟨_, Op.fieldAddr _ _ _, _, _, _, none⟩ :: _) _ _; refine SW.st (st_field rfl) rfl ?_)
    | (show SW _ _ _ _ (⟨_, Op.nilCheck _, _, _, _, none⟩ :: _) _ _; refine SW.st (st_nilCheck rfl) rfl ?_)
    | (show SW _ _ _ _ (⟨_, Op.build _ _, _, _, _, none⟩ :: _) _ _; refine SW.st (st_build rfl rfl) rfl ?_)
    | (show SW _ _ _ _ (⟨_, Op.binOp _ _ _ _ _, _, _, _, none⟩ :: _) _ _; first | refine SW.st (st_add rfl rfl (by omega) (by omega)) rfl ?_ | refine SW.st (st_sub rfl rfl (by omega) (by omega)) rfl ?_ | refine SW.st (st_mul rfl rfl (by omega) (by omega)) rfl ?_ | refine SW.st (st_quo rfl rfl (by omega) (by omega) (by omega)) rfl ?_ | refine SW.st (st_rem rfl rfl (by omega)) rfl ?_)
    | (show SW _ _ _ _ (⟨_, Op.indexAddr _ _ _, _, _, _, none⟩ :: _) _ _; refine SW.st (st_indexN rfl rfl (by assumption) (by omega)) rfl ?_)
    | (show SW _ _ _ _ (⟨_, Op.call ⟨.builtin .len, _, _⟩, _, _, _, none⟩ :: _) _ _; refine SW.st (st_len rfl) rfl ?_)
    | (show SW _ _ _ _ (⟨_, Op.call ⟨.builtin .cap, _, _⟩, _, _, _, none⟩ :: _) _ _; refine SW.st (st_cap rfl) rfl ?_)
    | (show SW _ _ _ _ (⟨_, Op.load _ _, _, _, _, none⟩ :: _) _ _; first | refine SW.st (st_loads rfl rfl ((fun _ _ => hB5.cell))) rfl ?_ | refine SW.st (st_loadsx hw rfl rfl ((fun _ _ => hB5.cell))) rfl ?_ | refine SW.st (st_loads rfl rfl ((fun _ _ => hB3.cell))) rfl ?_ | refine SW.st (st_loadsx hw rfl rfl ((fun _ _ => hB3.cell))) rfl ?_))
  refine SW.call rfl rfl (BReserve_ans _ _ _ _ _ _ x y r N hN _ hX.sl hY.sl hn hm) fun v w3 hw3 hv => ?_
  rw [ho] at hv
  obtain ⟨u, rfl, A6, n6, c6, B6, m6, d6, rfl, h6, h6'⟩ := hv
  replace hw := Ext.trans hw hw3
  replace hB := hB.ext hw3
  replace hB3 := hB3.ext hw3
  replace hB5 := hB5.ext hw3
  replace hX := hX.ext hw3
  replace hY := hY.ext hw3
  repeat' (first
    | (show CW _ _ _ _ _ _; first | refine CW.seq ?_ | refine CW.region ?_ | refine CW.block ?_ | refine CW.condtr rfl (by with_reducible rfl) ?_ | refine CW.condfr rfl (by with_reducible rfl) ?_ | refine CW.condd_t rfl (by omega) ?_ | refine CW.condd_f rfl (by omega) ?_ | refine CW.condn_t rfl (by omega) ?_ | refine CW.condn_f rfl (by omega) ?_ | refine CW.condd rfl (fun h => ?_) (fun h => ?_) | refine CW.condn rfl (fun h => ?_) (fun h => ?_) | refine CW.condt rfl ?_ | refine CW.condf rfl ?_ | refine CW.cond rfl (fun h => ?_) (fun h => ?_) | refine CW.skip ?_ | refine CW.ret ?_ | refine CW.exit ?_)
    | (show Post _ _ _ _ _; first | refine Post.seq ?_ | refine Post.seq_ret ?_ | refine Post.seq_exit ?_ | refine Post.hit ?_ | refine Post.pass rfl ?_ | refine Post.blk ?_ | refine Post.blk_ret ?_ | refine Post.again_exit ?_ | refine Post.again_ret ?_ | refine Post.np ?_)
    | refine SW.nil ?_
    | (show SW _ _ _ _ (⟨_, _, _, _, _, some _⟩ :: _) _ _; first | refine SW.want_t rfl rfl (by with_reducible rfl) ?_ | refine SW.want_f rfl rfl (by with_reducible rfl) ?_ | refine SW.skip_t rfl rfl (by with_reducible rfl) rfl ?_ | refine SW.skip_f rfl rfl (by with_reducible rfl) rfl ?_ | refine SW.skip_u rfl rfl (by with_reducible rfl) rfl ?_ | refine SW.splitd_t rfl rfl rfl (by omega) ?_ | refine SW.splitd_f rfl rfl rfl (by omega) ?_ | refine SW.splitn_t rfl rfl rfl (by omega) ?_ | refine SW.splitn_f rfl rfl rfl (by omega) ?_ | refine SW.splitd rfl rfl rfl (fun h => ?_) (fun h => ?_) | refine SW.splitn rfl rfl rfl (fun h => ?_) (fun h => ?_) | refine SW.want rfl rfl ?_ | refine SW.skip rfl rfl rfl rfl ?_ | refine SW.skipu rfl rfl rfl ?_ | refine SW.split rfl rfl rfl (fun h => ?_) (fun h => ?_))
    | refine SW.pure rfl rfl ?_
    | (show SW _ _ _ _ (⟨_, Op.fieldAddr _ _ _, _, _, _, none⟩ :: _) _ _; refine SW.st (st_field rfl) rfl ?_)
    | (show SW _ _ _ _ (⟨_, Op.nilCheck _, _, _, _, none⟩ :: _) _ _; refine SW.st (st_nilCheck rfl) rfl ?_)
    | (show SW _ _ _ _ (⟨_, Op.build _ _, _, _, _, none⟩ :: _) _ _; refine SW.st (st_build rfl rfl) rfl ?_)
    | (show SW _ _ _ _ (⟨_, Op.binOp _ _ _ _ _, _, _, _, none⟩ :: _) _ _; first | refine SW.st (st_add rfl rfl (by omega) (by omega)) rfl ?_ | refine SW.st (st_sub rfl rfl (by omega) (by omega)) rfl ?_ | refine SW.st (st_mul rfl rfl (by omega) (by omega)) rfl ?_ | refine SW.st (st_quo rfl rfl (by omega) (by omega) (by omega)) rfl ?_ | refine SW.st (st_rem rfl rfl (by omega)) rfl ?_)
    | (show SW _ _ _ _ (⟨_, Op.indexAddr _ _ _, _, _, _, none⟩ :: _) _ _; refine SW.st (st_indexN rfl rfl (by assumption) (by omega)) rfl ?_)
    | (show SW _ _ _ _ (⟨_, Op.call ⟨.builtin .len, _, _⟩, _, _, _, none⟩ :: _) _ _; refine SW.st (st_len rfl) rfl ?_)
    | (show SW _ _ _ _ (⟨_, Op.call ⟨.builtin .cap, _, _⟩, _, _, _, none⟩ :: _) _ _; refine SW.st (st_cap rfl) rfl ?_))
  refine SW.alloc rfl fun b6 w3 hw3 hb6 hB6 => ?_
  have hb6w : w.heap.size ≤ b6 := Nat.le_trans hw.size hb6
  have hne1 : b ≠ b6 := by have := hB.lt; omega
  have hne3 : b3 ≠ b6 := by have := hB3.lt; omega
  have hne5 : b5 ≠ b6 := by have := hB5.lt; omega
  replace hw := Ext.trans hw hw3
  replace hB := hB.ext hw3
  replace hB3 := hB3.ext hw3
  replace hB5 := hB5.ext hw3
  replace hX := hX.ext hw3
  replace hY := hY.ext hw3
  replace h6 := h6.ext hw3
  replace h6' := h6'.ext hw3
  refine SW.storeAgg hB6 rfl rfl rfl rfl (one_boot _ _ _ _ _ _) fun w4 hB6' hg => ?_
  replace hw := hw.own hb6w hg
  replace hX := hX.grown hg (.inr (hX.ne_blk hB6 rfl))
  replace hY := hY.grown hg (.inr (hY.ne_blk hB6 rfl))
  replace h6 := h6.grown hg (.inr (h6.ne_blk hB6 rfl))
  replace h6' := h6'.grown hg (.inr (h6'.ne_blk hB6 rfl))
  replace hB := hB.grown hg (by simpa using hne1)
  replace hB3 := hB3.grown hg (by simpa using hne3)
  replace hB5 := hB5.grown hg (by simpa using hne5)
  replace hB6 := hB6'
  clear hB6'
  repeat' (first
    | (show CW _ _ _ _ _ _; first | refine CW.seq ?_ | refine CW.region ?_ | refine CW.block ?_ | refine CW.condtr rfl (by with_reducible rfl) ?_ | refine CW.condfr rfl (by with_reducible rfl) ?_ | refine CW.condd_t rfl (by omega) ?_ | refine CW.condd_f rfl (by omega) ?_ | refine CW.condn_t rfl (by omega) ?_ | refine CW.condn_f rfl (by omega) ?_ | refine CW.condd rfl (fun h => ?_) (fun h => ?_) | refine CW.condn rfl (fun h => ?_) (fun h => ?_) | refine CW.condt rfl ?_ | refine CW.condf rfl ?_ | refine CW.cond rfl (fun h => ?_) (fun h => ?_) | refine CW.skip ?_ | refine CW.ret ?_ | refine CW.exit ?_)
    | (show Post _ _ _ _ _; first | refine Post.seq ?_ | refine Post.seq_ret ?_ | refine Post.seq_exit ?_ | refine Post.hit ?_ | refine Post.pass rfl ?_ | refine Post.blk ?_ | refine Post.blk_ret ?_ | refine Post.again_exit ?_ | refine Post.again_ret ?_ | refine Post.np ?_)
    | refine SW.nil ?_
    | (show SW _ _ _ _ (⟨_, _, _, _, _, some _⟩ :: _) _ _; first | refine SW.want_t rfl rfl (by with_reducible rfl) ?_ | refine SW.want_f rfl rfl (by with_reducible rfl) ?_ | refine SW.skip_t rfl rfl (by with_reducible rfl) rfl ?_ | refine SW.skip_f rfl rfl (by with_reducible rfl) rfl ?_ | refine SW.skip_u rfl rfl (by with_reducible rfl) rfl ?_ | refine SW.splitd_t rfl rfl rfl (by omega) ?_ | refine SW.splitd_f rfl rfl rfl (by omega) ?_ | refine SW.splitn_t rfl rfl rfl (by omega) ?_ | refine SW.splitn_f rfl rfl rfl (by omega) ?_ | refine SW.splitd rfl rfl rfl (fun h => ?_) (fun h => ?_) | refine SW.splitn rfl rfl rfl (fun h => ?_) (fun h => ?_) | refine SW.want rfl rfl ?_ | refine SW.skip rfl rfl rfl rfl ?_ | refine SW.skipu rfl rfl rfl ?_ | refine SW.split rfl rfl rfl (fun h => ?_) (fun h => ?_))
    | refine SW.pure rfl rfl ?_
    | (show SW _ _ _ _ (⟨_, Op.fieldAddr _ _ _, _, _, _, none⟩ :: _) _ _; refine SW.st (st_field rfl) rfl ?_)
    | (show SW _ _ _ _ (⟨_, Op.nilCheck _, _, _, _, none⟩ :: _) _ _; refine SW.st (st_nilCheck rfl) rfl ?_)
    | (show SW _ _ _ _ (⟨_, Op.build _ _, _, _, _, none⟩ :: _) _ _; refine SW.st (st_build rfl rfl) rfl ?_)
    | (show SW _ _ _ _ (⟨_, Op.binOp _ _ _ _ _, _, _, _, none⟩ :: _) _ _; first | refine SW.st (st_add rfl rfl (by omega) (by omega)) rfl ?_ | refine SW.st (st_sub rfl rfl (by omega) (by omega)) rfl ?_ | refine SW.st (st_mul rfl rfl (by omega) (by omega)) rfl ?_ | refine SW.st (st_quo rfl rfl (by omega) (by omega) (by omega)) rfl ?_ | refine SW.st (st_rem rfl rfl (by omega)) rfl ?_)
    | (show SW _ _ _ _ (⟨_, Op.indexAddr _ _ _, _, _, _, none⟩ :: _) _ _; refine SW.st (st_indexN rfl rfl (by assumption) (by omega)) rfl ?_)
    | (show SW _ _ _ _ (⟨_, Op.call ⟨.builtin .len, _, _⟩, _, _, _, none⟩ :: _) _ _; refine SW.st (st_len rfl) rfl ?_)
    | (show SW _ _ _ _ (⟨_, Op.call ⟨.builtin .cap, _, _⟩, _, _, _, none⟩ :: _) _ _; refine SW.st (st_cap rfl) rfl ?_)
    | (show SW _ _ _ _ (⟨_, Op.load _ _, _, _, _, none⟩ :: _) _ _; first | refine SW.st (st_loads rfl rfl ((fun _ _ => hB.cell))) rfl ?_ | refine SW.st (st_loadsx hw rfl rfl ((fun _ _ => hB.cell))) rfl ?_ | refine SW.st (st_loads rfl rfl ((fun _ _ => hB3.cell))) rfl ?_ | refine SW.st (st_loadsx hw rfl rfl ((fun _ _ => hB3.cell))) rfl ?_))
  refine SW.call rfl rfl (ChangedOf_ans _ _ _ _ _ _ x y r _ _ N hN _ (hx.ext hw) (hy.ext hw) hn hm) fun v w3 hw3 hv => ?_
  rw [ho] at hv
  obtain ⟨u, rfl, A8, n8, c8, B8, m8, d8, rfl, h8, h8'⟩ := hv
  replace hw := Ext.trans hw hw3
  replace hB := hB.ext hw3
  replace hB5 := hB5.ext hw3
  replace hB6 := hB6.ext hw3
  replace hX := hX.ext hw3
  replace hY := hY.ext hw3
  replace h6 := h6.ext hw3
  replace h6' := h6'.ext hw3
  repeat' (first
    | (show CW _ _ _ _ _ _; first | refine CW.seq ?_ | refine CW.region ?_ | refine CW.block ?_ | refine CW.condtr rfl (by with_reducible rfl) ?_ | refine CW.condfr rfl (by with_reducible rfl) ?_ | refine CW.condd_t rfl (by omega) ?_ | refine CW.condd_f rfl (by omega) ?_ | refine CW.condn_t rfl (by omega) ?_ | refine CW.condn_f rfl (by omega) ?_ | refine CW.condd rfl (fun h => ?_) (fun h => ?_) | refine CW.condn rfl (fun h => ?_) (fun h => ?_) | refine CW.condt rfl ?_ | refine CW.condf rfl ?_ | refine CW.cond rfl (fun h => ?_) (fun h => ?_) | refine CW.skip ?_ | refine CW.ret ?_ | refine CW.exit ?_)
    | (show Post _ _ _ _ _; first | refine Post.seq ?_ | refine Post.seq_ret ?_ | refine Post.seq_exit ?_ | refine Post.hit ?_ | refine Post.pass rfl ?_ | refine Post.blk ?_ | refine Post.blk_ret ?_ | refine Post.again_exit ?_ | refine Post.again_ret ?_ | refine Post.np ?_)
    | refine SW.nil ?_
    | (show SW _ _ _ _ (⟨_, _, _, _, _, some _⟩ :: _) _ _; first | refine SW.want_t rfl rfl (by with_reducible rfl) ?_ | refine SW.want_f rfl rfl (by with_reducible rfl) ?_ | refine SW.skip_t rfl rfl (by with_reducible rfl) rfl ?_ | refine SW.skip_f rfl rfl (by with_reducible rfl) rfl ?_ | refine SW.skip_u rfl rfl (by with_reducible rfl) rfl ?_ | refine SW.splitd_t rfl rfl rfl (by omega) ?_ | refine SW.splitd_f rfl rfl rfl (by omega) ?_ | refine SW.splitn_t rfl rfl rfl (by omega) ?_ | refine SW.splitn_f rfl rfl rfl (by omega) ?_ | refine SW.splitd rfl rfl rfl (fun h => ?_) (fun h => ?_) | refine SW.splitn rfl rfl rfl (fun h => ?_) (fun h => ?_) | refine SW.want rfl rfl ?_ | refine SW.skip rfl rfl rfl rfl ?_ | refine SW.skipu rfl rfl rfl ?_ | refine SW.split rfl rfl rfl (fun h => ?_) (fun h => ?_))
    | refine SW.pure rfl rfl ?_
    | (show SW _ _ _ _ (⟨_, Op.fieldAddr _ _ _, _, _, _, none⟩ :: _) _ _; refine SW.st (st_field rfl) rfl ?_)
    | (show SW _ _ _ _ (⟨_, Op.nilCheck _, _, _, _, none⟩ :: _) _ _; refine SW.st (st_nilCheck rfl) rfl ?_)
    | (show SW _ _ _ _ (⟨_, Op.build _ _, _, _, _, none⟩ :: _) _ _; refine SW.st (st_build rfl rfl) rfl ?_)
    | (show SW _ _ _ _ (⟨_, Op.binOp _ _ _ _ _, _, _, _, none⟩ :: _) _ _; first | refine SW.st (st_add rfl rfl (by omega) (by omega)) rfl ?_ | refine SW.st (st_sub rfl rfl (by omega) (by omega)) rfl ?_ | refine SW.st (st_mul rfl rfl (by omega) (by omega)) rfl ?_ | refine SW.st (st_quo rfl rfl (by omega) (by omega) (by omega)) rfl ?_ | refine SW.st (st_rem rfl rfl (by omega)) rfl ?_)
    | (show SW _ _ _ _ (⟨_, Op.indexAddr _ _ _, _, _, _, none⟩ :: _) _ _; refine SW.st (st_indexN rfl rfl (by assumption) (by omega)) rfl ?_)
    | (show SW _ _ _ _ (⟨_, Op.call ⟨.builtin .len, _, _⟩, _, _, _, none⟩ :: _) _ _; refine SW.st (st_len rfl) rfl ?_)
    | (show SW _ _ _ _ (⟨_, Op.call ⟨.builtin .cap, _, _⟩, _, _, _, none⟩ :: _) _ _; refine SW.st (st_cap rfl) rfl ?_))
  refine SW.alloc rfl fun b8 w3 hw3 hb8 hB8 => ?_
  have hb8w : w.heap.size ≤ b8 := Nat.le_trans hw.size hb8
  have hne1 : b ≠ b8 := by have := hB.lt; omega
  have hne5 : b5 ≠ b8 := by have := hB5.lt; omega
  have hne6 : b6 ≠ b8 := by have := hB6.lt; omega
  replace hw := Ext.trans hw hw3
  replace hB := hB.ext hw3
  replace hB5 := hB5.ext hw3
  replace hB6 := hB6.ext hw3
  replace hX := hX.ext hw3
  replace hY := hY.ext hw3
  replace h6 := h6.ext hw3
  replace h6' := h6'.ext hw3
  replace h8 := h8.ext hw3
  replace h8' := h8'.ext hw3
  refine SW.storeAgg hB8 rfl rfl rfl rfl (one_boot _ _ _ _ _ _) fun w4 hB8' hg => ?_
  replace hw := hw.own hb8w hg
  replace hX := hX.grown hg (.inr (hX.ne_blk hB8 rfl))
  replace hY := hY.grown hg (.inr (hY.ne_blk hB8 rfl))
  replace h6 := h6.grown hg (.inr (h6.ne_blk hB8 rfl))
  replace h6' := h6'.grown hg (.inr (h6'.ne_blk hB8 rfl))
  replace h8 := h8.grown hg (.inr (h8.ne_blk hB8 rfl))
  replace h8' := h8'.grown hg (.inr (h8'.ne_blk hB8 rfl))
  replace hB := hB.grown hg (by simpa using hne1)
  replace hB5 := hB5.grown hg (by simpa using hne5)
  replace hB6 := hB6.grown hg (by simpa using hne6)
  replace hB8 := hB8'
  clear hB8'
  obtain ⟨o0, o1, o2⟩ := o
  simp only at h6 h6' h8 h8' hle
  have s1 : ∀ w', Ext w w' → Sl w' 2 encR A6 n6 o1 → Sl w' 2 encR B6 m6 o2 → Sl w' 2 encR A8 n8 o1 → Sl w' 2 encR B8 m8 o2 → Ans Try.prog 39 [.agg (bootCells A6 n6 c6 B6 m6 d6).toArray, .agg (bootCells A8 n8 c8 B8 m8 d8).toArray] w' fun v _ => v = .bool true := fun w' _ a1 a2 a3 a4 => by
    have := sameBoot_ans A6 n6 c6 B6 m6 d6 A8 n8 c8 B8 m8 d8 o1 o2 o1 o2 w' a1 a2 a3 a4 (by have := a1.len; omega) (by have := a2.len; omega)
    simpa using this
  have s2 : ∀ w', Ext w w' → Sl w' 2 encR Ak nk x → Sl w' 2 encR Bk mk y → Ans Try.prog 39 [.agg (bootCells Ak nk ck Bk mk dk).toArray, .agg (bootCells A nk c B mk d).toArray] w' fun v _ => v = .bool true := fun w' h a1 a2 => by
    have := sameBoot_ans Ak nk ck Bk mk dk A nk c B mk d x y x y w' a1 a2 (hx.ext h) (hy.ext h) (by omega) (by omega)
    simpa using this
  repeat' (first
    | (show CW _ _ _ _ _ _; first | refine CW.seq ?_ | refine CW.region ?_ | refine CW.block ?_ | refine CW.condtr rfl (by with_reducible rfl) ?_ | refine CW.condfr rfl (by with_reducible rfl) ?_ | refine CW.condd_t rfl (by omega) ?_ | refine CW.condd_f rfl (by omega) ?_ | refine CW.condn_t rfl (by omega) ?_ | refine CW.condn_f rfl (by omega) ?_ | refine CW.condd rfl (fun h => ?_) (fun h => ?_) | refine CW.condn rfl (fun h => ?_) (fun h => ?_) | refine CW.condt rfl ?_ | refine CW.condf rfl ?_ | refine CW.cond rfl (fun h => ?_) (fun h => ?_) | refine CW.skip ?_ | refine CW.ret ?_ | refine CW.exit ?_)
    | (show Post _ _ _ _ _; first | refine Post.seq ?_ | refine Post.seq_ret ?_ | refine Post.seq_exit ?_ | refine Post.hit ?_ | refine Post.pass rfl ?_ | refine Post.blk ?_ | refine Post.blk_ret ?_ | refine Post.again_exit ?_ | refine Post.again_ret ?_ | refine Post.np ?_)
    | refine SW.nil ?_
    | (show SW _ _ _ _ (⟨_, _, _, _, _, some _⟩ :: _) _ _; first | refine SW.want_t rfl rfl (by with_reducible rfl) ?_ | refine SW.want_f rfl rfl (by with_reducible rfl) ?_ | refine SW.skip_t rfl rfl (by with_reducible rfl) rfl ?_ | refine SW.skip_f rfl rfl (by with_reducible rfl) rfl ?_ | refine SW.skip_u rfl rfl (by with_reducible rfl) rfl ?_ | refine SW.splitd_t rfl rfl rfl (by omega) ?_ | refine SW.splitd_f rfl rfl rfl (by omega) ?_ | refine SW.splitn_t rfl rfl rfl (by omega) ?_ | refine SW.splitn_f rfl rfl rfl (by omega) ?_ | refine SW.splitd rfl rfl rfl (fun h => ?_) (fun h => ?_) | refine SW.splitn rfl rfl rfl (fun h => ?_) (fun h => ?_) | refine SW.want rfl rfl ?_ | refine SW.skip rfl rfl rfl rfl ?_ | refine SW.skipu rfl rfl rfl ?_ | refine SW.split rfl rfl rfl (fun h => ?_) (fun h => ?_))
    | refine SW.pure rfl rfl ?_
    | (show SW _ _ _ _ (⟨_, Op.fieldAddr _ _ _, _, _, _, none⟩ :: _) _ _; refine SW.st (st_field rfl) rfl ?_)
    | (show SW _ _ _ _ (⟨_, Op.nilCheck _, _, _, _, none⟩ :: _) _ _; refine SW.st (st_nilCheck rfl) rfl ?_)
    | (show SW _ _ _ _ (⟨_, Op.build _ _, _, _, _, none⟩ :: _) _ _; refine SW.st (st_build rfl rfl) rfl ?_)
    | (show SW _ _ _ _ (⟨_, Op.binOp _ _ _ _ _, _, _, _, none⟩ :: _) _ _; first | refine SW.st (st_add rfl rfl (by omega) (by omega)) rfl ?_ | refine SW.st (st_sub rfl rfl (by omega) (by omega)) rfl ?_ | refine SW.st (st_mul rfl rfl (by omega) (by omega)) rfl ?_ | refine SW.st (st_quo rfl rfl (by omega) (by omega) (by omega)) rfl ?_ | refine SW.st (st_rem rfl rfl (by omega)) rfl ?_)
    | (show SW _ _ _ _ (⟨_, Op.indexAddr _ _ _, _, _, _, none⟩ :: _) _ _; refine SW.st (st_indexN rfl rfl (by assumption) (by omega)) rfl ?_)
    | (show SW _ _ _ _ (⟨_, Op.call ⟨.builtin .len, _, _⟩, _, _, _, none⟩ :: _) _ _; refine SW.st (st_len rfl) rfl ?_)
    | (show SW _ _ _ _ (⟨_, Op.call ⟨.builtin .cap, _, _⟩, _, _, _, none⟩ :: _) _ _; refine SW.st (st_cap rfl) rfl ?_)
    | (show SW _ _ _ _ (⟨_, Op.load _ _, _, _, _, none⟩ :: _) _ _; first | refine SW.st (st_loads rfl rfl ((fun _ _ => hB6.cell))) rfl ?_ | refine SW.st (st_loadsx hw rfl rfl ((fun _ _ => hB6.cell))) rfl ?_ | refine SW.st (st_loads rfl rfl ((fun _ _ => hB8.cell))) rfl ?_ | refine SW.st (st_loadsx hw rfl rfl ((fun _ _ => hB8.cell))) rfl ?_ | refine SW.st (st_loads rfl rfl ((fun _ _ => hB5.cell))) rfl ?_ | refine SW.st (st_loadsx hw rfl rfl ((fun _ _ => hB5.cell))) rfl ?_ | refine SW.st (st_loads rfl rfl ((fun _ _ => hB.cell))) rfl ?_ | refine SW.st (st_loadsx hw rfl rfl ((fun _ _ => hB.cell))) rfl ?_)
    | (show SW _ _ _ _ (⟨_, Op.call ⟨.value (.func _), _, _⟩, _, _, _, none⟩ :: _) _ _; first | (refine SW.call rfl rfl (s1 _ hw h6.sl h6'.sl h8.sl h8'.sl) ?_; intro v w1 hw1 hv; subst hv; replace hw := Ext.trans hw hw1; replace hB := hB.ext hw1; replace hB5 := hB5.ext hw1; replace hB6 := hB6.ext hw1; replace hB8 := hB8.ext hw1; replace hX := hX.ext hw1; replace hY := hY.ext hw1; replace h6 := h6.ext hw1; replace h6' := h6'.ext hw1; replace h8 := h8.ext hw1; replace h8' := h8'.ext hw1; clear hw1) | (refine SW.call rfl rfl (s2 _ hw hX.sl hY.sl) ?_; intro v w1 hw1 hv; subst hv; replace hw := Ext.trans hw hw1; replace hB := hB.ext hw1; replace hB5 := hB5.ext hw1; replace hB6 := hB6.ext hw1; replace hB8 := hB8.ext hw1; replace hX := hX.ext hw1; replace hY := hY.ext hw1; replace h6 := h6.ext hw1; replace h6' := h6'.ext hw1; replace h8 := h8.ext hw1; replace h8' := h8'.ext hw1; clear hw1)))
  exact Post.ret1 rfl rfl ⟨_, rfl, hw, rfl⟩


theorem lawBootFrees_ans (A : Option Addr) (n c : Nat) (B : Option Addr) (m d : Nat) (x y : List Region) (r : Region) (w : World) (hx : Sl w 2 encR A n x) (hy : Sl w 2 encR B m y) (hn : n * 16 ≤ 140737488355328) (hm : m * 16 ≤ 140737488355328) :
    Ans Try.prog 12 [.agg (bootCells A n c B m d).toArray, .agg (encR r).toArray] w fun v _ => v = .bool true := by
  refine ans_of Try.func12 rfl Try.ntmps12 rfl ?_
  obtain ⟨N, hN⟩ : ∃ N : Nat, N = 256 := ⟨_, rfl⟩
  have hle := changeV_le (N := N) (x := x) (y := y) (r := r) (res := true) (wth := false) hN (by have := hx.len; omega) (by have := hy.len; omega)
  obtain ⟨o, ho⟩ : ∃ o, changeV N x y r true false = o := ⟨_, rfl⟩
  rw [ho] at hle
  refine CW.seq (CW.region (SW.box rfl rfl fun b w1 hw hb hB => ?_))
  refine SW.box rfl rfl fun b3 w2 hw2 hb3 hB3 => ?_
  replace hw := Ext.trans hw hw2
  replace hB := hB.ext hw2
  repeat' (first
    | (show CW _ _ _ _ _ _; first | refine CW.seq ?_ | refine CW.region ?_ | refine CW.block ?_ | refine CW.condtr rfl (by with_reducible rfl) ?_ | refine CW.condfr rfl (by with_reducible rfl) ?_ | refine CW.condd_t rfl (by omega) ?_ | refine CW.condd_f rfl (by omega) ?_ | refine CW.condn_t rfl (by omega) ?_ | refine CW.condn_f rfl (by omega) ?_ | refine CW.condd rfl (fun h => ?_) (fun h => ?_) | refine CW.condn rfl (fun h => ?_) (fun h => ?_) | refine CW.condt rfl ?_ | refine CW.condf rfl ?_ | refine CW.cond rfl (fun h => ?_) (fun h => ?_) | refine CW.skip ?_ | refine CW.ret ?_ | refine CW.exit ?_)
    | (show Post _ _ _ _ _; first | refine Post.seq ?_ | refine Post.seq_ret ?_ | refine Post.seq_exit ?_ | refine Post.hit ?_ | refine Post.pass rfl ?_ | refine Post.blk ?_ | refine Post.blk_ret ?_ | refine Post.again_exit ?_ | refine Post.again_ret ?_ | refine Post.np ?_)
    | refine SW.nil ?_
    | (show SW _ _ _ _ (⟨_, _, _, _, _, some _⟩ :: _) _ _; first | refine SW.want_t rfl rfl (by with_reducible rfl) ?_ | refine SW.want_f rfl rfl (by with_reducible rfl) ?_ | refine SW.skip_t rfl rfl (by with_reducible rfl) rfl ?_ | refine SW.skip_f rfl rfl (by with_reducible rfl) rfl ?_ | refine SW.skip_u rfl rfl (by with_reducible rfl) rfl ?_ | refine SW.splitd_t rfl rfl rfl (by omega) ?_ | refine SW.splitd_f rfl rfl rfl (by omega) ?_ | refine SW.splitn_t rfl rfl rfl (by omega) ?_ | refine SW.splitn_f rfl rfl rfl (by omega) ?_ | refine SW.splitd rfl rfl rfl (fun h => ?_) (fun h => ?_) | refine SW.splitn rfl rfl rfl (fun h => ?_) (fun h => ?_) | refine SW.want rfl rfl ?_ | refine SW.skip rfl rfl rfl rfl ?_ | refine SW.skipu rfl rfl rfl ?_ | refine SW.split rfl rfl rfl (fun h => ?_) (fun h => ?_))
    | refine SW.pure rfl rfl ?_
    | (show SW _ _ _ _ (⟨_, Op.fieldAddr _ _ _, _, _, _, none⟩ :: _) _ _; refine SW.st (st_field rfl) rfl ?_)
    | (show SW _ _ _ _ (⟨_, Op.nilCheck _, _, _, _, none⟩ :: _) _ _; refine SW.st (st_nilCheck rfl) rfl ?_)
    | (show SW _ _ _ _ (⟨_, Op.build _ _, _, _, _, none⟩ :: _) _ _; refine SW.st (st_build rfl rfl) rfl ?_)
    | (show SW _ _ _ _ (⟨_, Op.binOp _ _ _ _ _, _, _, _, none⟩ :: _) _ _; first | refine SW.st (st_add rfl rfl (by omega) (by omega)) rfl ?_ | refine SW.st (st_sub rfl rfl (by omega) (by omega)) rfl ?_ | refine SW.st (st_mul rfl rfl (by omega) (by omega)) rfl ?_ | refine SW.st (st_quo rfl rfl (by omega) (by omega) (by omega)) rfl ?_ | refine SW.st (st_rem rfl rfl (by omega)) rfl ?_)
    | (show SW _ _ _ _ (⟨_, Op.indexAddr _ _ _, _, _, _, none⟩ :: _) _ _; refine SW.st (st_indexN rfl rfl (by assumption) (by omega)) rfl ?_)
    | (show SW _ _ _ _ (⟨_, Op.call ⟨.builtin .len, _, _⟩, _, _, _, none⟩ :: _) _ _; refine SW.st (st_len rfl) rfl ?_)
    | (show SW _ _ _ _ (⟨_, Op.call ⟨.builtin .cap, _, _⟩, _, _, _, none⟩ :: _) _ _; refine SW.st (st_cap rfl) rfl ?_)
    | (show SW _ _ _ _ (⟨_, Op.load _ _, _, _, _, none⟩ :: _) _ _; first | refine SW.st (st_loads rfl rfl ((fun _ _ => hB.cell))) rfl ?_ | refine SW.st (st_loadsx hw rfl rfl ((fun _ _ => hB.cell))) rfl ?_))
  refine SW.call rfl rfl (boots_ans _ _ _ _ _ _ _ _ _ (hx.ext hw) (hy.ext hw) hn hm) fun v w3 hw3 hv => ?_
  obtain ⟨Ak, nk, ck, Bk, mk, dk, rfl, hX, hY⟩ := hv
  replace hX := hX.low hw.size
  replace hY := hY.low hw.size
  obtain rfl : nk = n := by rw [← hX.len, ← hx.len]
  obtain rfl : mk = m := by rw [← hY.len, ← hy.len]
  replace hw := Ext.trans hw hw3
  replace hB := hB.ext hw3
  replace hB3 := hB3.ext hw3
  refine SW.alloc rfl fun b5 w3 hw3 hb5 hB5 => ?_
  have hb5w : w.heap.size ≤ b5 := Nat.le_trans hw.size hb5
  have hne1 : b ≠ b5 := by have := hB.lt; omega
  have hne3 : b3 ≠ b5 := by have := hB3.lt; omega
  replace hw := Ext.trans hw hw3
  replace hB := hB.ext hw3
  replace hB3 := hB3.ext hw3
  replace hX := hX.ext hw3
  replace hY := hY.ext hw3
  refine SW.storeAgg hB5 rfl rfl rfl rfl (one_boot _ _ _ _ _ _) fun w4 hB5' hg => ?_
  replace hw := hw.own hb5w hg
  replace hX := hX.grown hg (.inr (hX.ne_blk hB5 rfl))
  replace hY := hY.grown hg (.inr (hY.ne_blk hB5 rfl))
  replace hB := hB.grown hg (by simpa using hne1)
  replace hB3 := hB3.grown hg (by simpa using hne3)
  replace hB5 := hB5'
  clear hB5'
  repeat' (first
    | (show CW _ _ _ _ _ _; first | refine CW.seq ?_ | refine CW.region ?_ | refine CW.block ?_ | refine CW.condtr rfl (by with_reducible rfl) ?_ | refine CW.condfr rfl (by with_reducible rfl) ?_ | refine CW.condd_t rfl (by omega) ?_ | refine CW.condd_f rfl (by omega) ?_ | refine CW.condn_t rfl (by omega) ?_ | refine CW.condn_f rfl (by omega) ?_ | refine CW.condd rfl (fun h => ?_) (fun h => ?_) | refine CW.condn rfl (fun h => ?_) (fun h => ?_) | refine CW.condt rfl ?_ | refine CW.condf rfl ?_ | refine CW.cond rfl (fun h => ?_) (fun h => ?_) | refine CW.skip ?_ | refine CW.ret ?_ | refine CW.exit ?_)
    | (show Post _ _ _ _ _; first | refine Post.seq ?_ | refine Post.seq_ret ?_ | refine Post.seq_exit ?_ | refine Post.hit ?_ | refine Post.pass rfl ?_ | refine Post.blk ?_ | refine Post.blk_ret ?_ | refine Post.again_exit ?_ | refine Post.again_ret ?_ | refine Post.np ?_)
    | refine SW.nil ?_
    | (show SW _ _ _ _ (⟨_, _, _, _, _, some _⟩ :: _) _ _; first | refine SW.want_t rfl rfl (by with_reducible rfl) ?_ | refine SW.want_f rfl rfl (by with_reducible rfl) ?_ | refine SW.skip_t rfl rfl (by with_reducible rfl) rfl ?_ | refine SW.skip_f rfl rfl (by with_reducible rfl) rfl ?_ | refine SW.skip_u rfl rfl (by with_reducible rfl) rfl ?_ | refine SW.splitd_t rfl rfl rfl (by omega) ?_ | refine SW.splitd_f rfl rfl rfl (by omega) ?_ | refine SW.splitn_t rfl rfl rfl (by omega) ?_ | refine SW.splitn_f rfl rfl rfl (by omega) ?_ | refine SW.splitd rfl rfl rfl (fun h => ?_) (fun h => ?_) | refine SW.splitn rfl rfl rfl (fun h => ?_) (fun h => ?_) | refine SW.want rfl rfl ?_ | refine SW.skip rfl rfl rfl rfl ?_ | refine SW.skipu rfl rfl rfl ?_ | refine SW.split rfl rfl rfl (fun h => ?_) (fun h => ?_))
    | refine SW.pure rfl rfl ?_
    | (show SW _ _ _ _ (⟨_, Op.fieldAddr _ _ _, _, _, _, none⟩ :: _) _ _; refine SW.st (st_field rfl) rfl ?_)
    | (show SW _ _ _ _ (⟨_, Op.nilCheck _, _, _, _, none⟩ :: _) _ _; refine SW.st (st_nilCheck rfl) rfl ?_)
    | (show SW _ _ _ _ (⟨_, Op.build _ _, _, _, _, none⟩ :: _) _ _; refine SW.st (st_build rfl rfl) rfl ?_)
    | (show SW _ _ _ _ (⟨_, Op.binOp _ _ _ _ _, _, _, _, none⟩ :: _) _ _; first | refine SW.st (st_add rfl rfl (by omega) (by omega)) rfl ?_ | refine SW.st (st_sub rfl rfl (by omega) (by omega)) rfl ?_ | refine SW.st (st_mul rfl rfl (by omega) (by omega)) rfl ?_ | refine SW.st (st_quo rfl rfl (by omega) (by omega) (by omega)) rfl ?_ | refine SW.st (st_rem rfl rfl (by omega)) rfl ?_)
    | (show SW _ _ _ _ (⟨_, Op.indexAddr _ _ _, _, _, _, none⟩ :: _) _ _; refine SW.st (st_indexN rfl rfl (by assumption) (by omega)) rfl ?_)
    | (show SW _ _ _ _ (⟨_, Op.call ⟨.builtin .len, _, _⟩, _, _, _, none⟩ :: _) _ _; refine SW.st (st_len rfl) rfl ?_)
    | (show SW _ _ _ _ (⟨_, Op.call ⟨.builtin .cap, _, _⟩, _, _, _, none⟩ :: _) _ _; refine SW.st (st_cap rfl) rfl ?_)
    | (show SW _ _ _ _ (⟨_, Op.load _ _, _, _, _, none⟩ :: _) _ _; first | refine SW.st (st_loads rfl rfl ((fun _ _ => hB5.cell))) rfl ?_ | refine SW.st (st_loadsx hw rfl rfl ((fun _ _ => hB5.cell))) rfl ?_ | refine SW.st (st_loads rfl rfl ((fun _ _ => hB3.cell))) rfl ?_ | refine SW.st (st_loadsx hw rfl rfl ((fun _ _ => hB3.cell))) rfl ?_))
  refine SW.call rfl rfl (BFree_ans _ _ _ _ _ _ x y r N hN _ hX.sl hY.sl hn hm) fun v w3 hw3 hv => ?_
  rw [ho] at hv
  obtain ⟨u, rfl, A6, n6, c6, B6, m6, d6, rfl, h6, h6'⟩ := hv
  replace hw := Ext.trans hw hw3
  replace hB := hB.ext hw3
  replace hB3 := hB3.ext hw3
  replace hB5 := hB5.ext hw3
  replace hX := hX.ext hw3
  replace hY := hY.ext hw3
  repeat' (first
    | (show CW _ _ _ _ _ _; first | refine CW.seq ?_ | refine CW.region ?_ | refine CW.block ?_ | refine CW.condtr rfl (by with_reducible rfl) ?_ | refine CW.condfr rfl (by with_reducible rfl) ?_ | refine CW.condd_t rfl (by omega) ?_ | refine CW.condd_f rfl (by omega) ?_ | refine CW.condn_t rfl (by omega) ?_ | refine CW.condn_f rfl (by omega) ?_ | refine CW.condd rfl (fun h => ?_) (fun h => ?_) | refine CW.condn rfl (fun h => ?_) (fun h => ?_) | refine CW.condt rfl ?_ | refine CW.condf rfl ?_ | refine CW.cond rfl (fun h => ?_) (fun h => ?_) | refine CW.skip ?_ | refine CW.ret ?_ | refine CW.exit ?_)
    | (show Post _ _ _ _ _; first | refine Post.seq ?_ | refine Post.seq_ret ?_ | refine Post.seq_exit ?_ | refine Post.hit ?_ | refine Post.pass rfl ?_ | refine Post.blk ?_ | refine Post.blk_ret ?_ | refine Post.again_exit ?_ | refine Post.again_ret ?_ | refine Post.np ?_)
    | refine SW.nil ?_
    | (show SW _ _ _ _ (⟨_, _, _, _, _, some _⟩ :: _) _ _; first | refine SW.want_t rfl rfl (by with_reducible rfl) ?_ | refine SW.want_f rfl rfl (by with_reducible rfl) ?_ | refine SW.skip_t rfl rfl (by with_reducible rfl) rfl ?_ | refine SW.skip_f rfl rfl (by with_reducible rfl) rfl ?_ | refine SW.skip_u rfl rfl (by with_reducible rfl) rfl ?_ | refine SW.splitd_t rfl rfl rfl (by omega) ?_ | refine SW.splitd_f rfl rfl rfl (by omega) ?_ | refine SW.splitn_t rfl rfl rfl (by omega) ?_ | refine SW.splitn_f rfl rfl rfl (by omega) ?_ | refine SW.splitd rfl rfl rfl (fun h => ?_) (fun h => ?_) | refine SW.splitn rfl rfl rfl (fun h => ?_) (fun h => ?_) | refine SW.want rfl rfl ?_ | refine SW.skip rfl rfl rfl rfl ?_ | refine SW.skipu rfl rfl rfl ?_ | refine SW.split rfl rfl rfl (fun h => ?_) (fun h => ?_))
    | refine SW.pure rfl rfl ?_
    | (show SW _ _ _ _ (⟨_, Op.fieldAddr _ _ _, _, _, _, none⟩ :: _) _ _; refine SW.st (st_field rfl) rfl ?_)
    | (show SW _ _ _ _ (⟨_, Op.nilCheck _, _, _, _, none⟩ :: _) _ _; refine SW.st (st_nilCheck rfl) rfl ?_)
    | (show SW _ _ _ _ (⟨_, Op.build _ _, _, _, _, none⟩ :: _) _ _; refine SW.st (st_build rfl rfl) rfl ?_)
    | (show SW _ _ _ _ (⟨_, Op.binOp _ _ _ _ _, _, _, _, none⟩ :: _) _ _; first | refine SW.st (st_add rfl rfl (by omega) (by omega)) rfl ?_ | refine SW.st (st_sub rfl rfl (by omega) (by omega)) rfl ?_ | refine SW.st (st_mul rfl rfl (by omega) (by omega)) rfl ?_ | refine SW.st (st_quo rfl rfl (by omega) (by omega) (by omega)) rfl ?_ | refine SW.st (st_rem rfl rfl (by omega)) rfl ?_)
    | (show SW _ _ _ _ (⟨_, Op.indexAddr _ _ _, _, _, _, none⟩ :: _) _ _; refine SW.st (st_indexN rfl rfl (by assumption) (by omega)) rfl ?_)
    | (show SW _ _ _ _ (⟨_, Op.call ⟨.builtin .len, _, _⟩, _, _, _, none⟩ :: _) _ _; refine SW.st (st_len rfl) rfl ?_)
    | (show SW _ _ _ _ (⟨_, Op.call ⟨.builtin .cap, _, _⟩, _, _, _, none⟩ :: _) _ _; refine SW.st (st_cap rfl) rfl ?_))
  refine SW.alloc rfl fun b6 w3 hw3 hb6 hB6 => ?_
  have hb6w : w.heap.size ≤ b6 := Nat.le_trans hw.size hb6
  have hne1 : b ≠ b6 := by have := hB.lt; omega
  have hne3 : b3 ≠ b6 := by have := hB3.lt; omega
  have hne5 : b5 ≠ b6 := by have := hB5.lt; omega
  replace hw := Ext.trans hw hw3
  replace hB := hB.ext hw3
  replace hB3 := hB3.ext hw3
  replace hB5 := hB5.ext hw3
  replace hX := hX.ext hw3
  replace hY := hY.ext hw3
  replace h6 := h6.ext hw3
  replace h6' := h6'.ext hw3
  refine SW.storeAgg hB6 rfl rfl rfl rfl (one_boot _ _ _ _ _ _) fun w4 hB6' hg => ?_
  replace hw := hw.own hb6w hg
  replace hX := hX.grown hg (.inr (hX.ne_blk hB6 rfl))
  replace hY := hY.grown hg (.inr (hY.ne_blk hB6 rfl))
  replace h6 := h6.grown hg (.inr (h6.ne_blk hB6 rfl))
  replace h6' := h6'.grown hg (.inr (h6'.ne_blk hB6 rfl))
  replace hB := hB.grown hg (by simpa using hne1)
  replace hB3 := hB3.grown hg (by simpa using hne3)
  replace hB5 := hB5.grown hg (by simpa using hne5)
  replace hB6 := hB6'
  clear hB6'
  repeat' (first
    | (show CW _ _ _ _ _ _; first | refine CW.seq ?_ | refine CW.region ?_ | refine CW.block ?_ | refine CW.condtr rfl (by with_reducible rfl) ?_ | refine CW.condfr rfl (by with_reducible rfl) ?_ | refine CW.condd_t rfl (by omega) ?_ | refine CW.condd_f rfl (by omega) ?_ | refine CW.condn_t rfl (by omega) ?_ | refine CW.condn_f rfl (by omega) ?_ | refine CW.condd rfl (fun h => ?_) (fun h => ?_) | refine CW.condn rfl (fun h => ?_) (fun h => ?_) | refine CW.condt rfl ?_ | refine CW.condf rfl ?_ | refine CW.cond rfl (fun h => ?_) (fun h => ?_) | refine CW.skip ?_ | refine CW.ret ?_ | refine CW.exit ?_)
    | (show Post _ _ _ _ _; first | refine Post.seq ?_ | refine Post.seq_ret ?_ | refine Post.seq_exit ?_ | refine Post.hit ?_ | refine Post.pass rfl ?_ | refine Post.blk ?_ | refine Post.blk_ret ?_ | refine Post.again_exit ?_ | refine Post.again_ret ?_ | refine Post.np ?_)
    | refine SW.nil ?_
    | (show SW _ _ _ _ (⟨_, _, _, _, _, some _⟩ :: _) _ _; first | refine SW.want_t rfl rfl (by with_reducible rfl) ?_ | refine SW.want_f rfl rfl (by with_reducible rfl) ?_ | refine SW.skip_t rfl rfl (by with_reducible rfl) rfl ?_ | refine SW.skip_f rfl rfl (by with_reducible rfl) rfl ?_ | refine SW.skip_u rfl rfl (by with_reducible rfl) rfl ?_ | refine SW.splitd_t rfl rfl rfl (by omega) ?_ | refine SW.splitd_f rfl rfl rfl (by omega) ?_ | refine SW.splitn_t rfl rfl rfl (by omega) ?_ | refine SW.splitn_f rfl rfl rfl (by omega) ?_ | refine SW.splitd rfl rfl rfl (fun h => ?_) (fun h => ?_) | refine SW.splitn rfl rfl rfl (fun h => ?_) (fun h => ?_) | refine SW.want rfl rfl ?_ | refine SW.skip rfl rfl rfl rfl ?_ | refine SW.skipu rfl rfl rfl ?_ | refine SW.split rfl rfl rfl (fun h => ?_) (fun h => ?_))
    | refine SW.pure rfl rfl ?_
    | (show SW _ _ _ _ (⟨_, Op.fieldAddr _ _ _, _, _, _, none⟩ :: _) _ _; refine SW.st (st_field rfl) rfl ?_)
    | (show SW _ _ _ _ (⟨_, Op.nilCheck _, _, _, _, none⟩ :: _) _ _; refine SW.st (st_nilCheck rfl) rfl ?_)
    | (show SW _ _ _ _ (⟨_, Op.build _ _, _, _, _, none⟩ :: _) _ _; refine SW.st (st_build rfl rfl) rfl ?_)
    | (show SW _ _ _ _ (⟨_, Op.binOp _ _ _ _ _, _, _, _, none⟩ :: _) _ _; first | refine SW.st (st_add rfl rfl (by omega) (by omega)) rfl ?_ | refine SW.st (st_sub rfl rfl (by omega) (by omega)) rfl ?_ | refine SW.st (st_mul rfl rfl (by omega) (by omega)) rfl ?_ | refine SW.st (st_quo rfl rfl (by omega) (by omega) (by omega)) rfl ?_ | refine SW.st (st_rem rfl rfl (by omega)) rfl ?_)
    | (show SW _ _ _ _ (⟨_, Op.indexAddr _ _ _, _, _, _, none⟩ :: _) _ _; refine SW.st (st_indexN rfl rfl (by assumption) (by omega)) rfl ?_)
    | (show SW _ _ _ _ (⟨_, Op.call ⟨.builtin .len, _, _⟩, _, _, _, none⟩ :: _) _ _; refine SW.st (st_len rfl) rfl ?_)
    | (show SW _ _ _ _ (⟨_, Op.call ⟨.builtin .cap, _, _⟩, _, _, _, none⟩ :: _) _ _; refine SW.st (st_cap rfl) rfl ?_)
    | (show SW _ _ _ _ (⟨_, Op.load _ _, _, _, _, none⟩ :: _) _ _; first | refine SW.st (st_loads rfl rfl ((fun _ _ => hB.cell))) rfl ?_ | refine SW.st (st_loadsx hw rfl rfl ((fun _ _ => hB.cell))) rfl ?_ | refine SW.st (st_loads rfl rfl ((fun _ _ => hB3.cell))) rfl ?_ | refine SW.st (st_loadsx hw rfl rfl ((fun _ _ => hB3.cell))) rfl ?_))
  refine SW.call rfl rfl (ChangedOf_ans _ _ _ _ _ _ x y r _ _ N hN _ (hx.ext hw) (hy.ext hw) hn hm) fun v w3 hw3 hv => ?_
  rw [ho] at hv
  obtain ⟨u, rfl, A8, n8, c8, B8, m8, d8, rfl, h8, h8'⟩ := hv
  replace hw := Ext.trans hw hw3
  replace hB := hB.ext hw3
  replace hB5 := hB5.ext hw3
  replace hB6 := hB6.ext hw3
  replace hX := hX.ext hw3
  replace hY := hY.ext hw3
  replace h6 := h6.ext hw3
  replace h6' := h6'.ext hw3
  repeat' (first
    | (show CW _ _ _ _ _ _; first | refine CW.seq ?_ | refine CW.region ?_ | refine CW.block ?_ | refine CW.condtr rfl (by with_reducible rfl) ?_ | refine CW.condfr rfl (by with_reducible rfl) ?_ | refine CW.condd_t rfl (by omega) ?_ | refine CW.condd_f rfl (by omega) ?_ | refine CW.condn_t rfl (by omega) ?_ | refine CW.condn_f rfl (by omega) ?_ | refine CW.condd rfl (fun h => ?_) (fun h => ?_) | refine CW.condn rfl (fun h => ?_) (fun h => ?_) | refine CW.condt rfl ?_ | refine CW.condf rfl ?_ | refine CW.cond rfl (fun h => ?_) (fun h => ?_) | refine CW.skip ?_ | refine CW.ret ?_ | refine CW.exit ?_)
    | (show Post _ _ _ _ _; first | refine Post.seq ?_ | refine Post.seq_ret ?_ | refine Post.seq_exit ?_ | refine Post.hit ?_ | refine Post.pass rfl ?_ | refine Post.blk ?_ | refine Post.blk_ret ?_ | refine Post.again_exit ?_ | refine Post.again_ret ?_ | refine Post.np ?_)
    | refine SW.nil ?_
    | (show SW _ _ _ _ (⟨_, _, _, _, _, some _⟩ :: _) _ _; first | refine SW.want_t rfl rfl (by with_reducible rfl) ?_ | refine SW.want_f rfl rfl (by with_reducible rfl) ?_ | refine SW.skip_t rfl rfl (by with_reducible rfl) rfl ?_ | refine SW.skip_f rfl rfl (by with_reducible rfl) rfl ?_ | refine SW.skip_u rfl rfl (by with_reducible rfl) rfl ?_ | refine SW.splitd_t rfl rfl rfl (by omega) ?_ | refine SW.splitd_f rfl rfl rfl (by omega) ?_ | refine SW.splitn_t rfl rfl rfl (by omega) ?_ | refine SW.splitn_f rfl rfl rfl (by omega) ?_ | refine SW.splitd rfl rfl rfl (fun h => ?_) (fun h => ?_) | refine SW.splitn rfl rfl rfl (fun h => ?_) (fun h => ?_) | refine SW.want rfl rfl ?_ | refine SW.skip rfl rfl rfl rfl ?_ | refine SW.skipu rfl rfl rfl ?_ | refine SW.split rfl rfl rfl (fun h => ?_) (fun h => ?_))
    | refine SW.pure rfl rfl ?_
    | (show SW _ _ _ _ (⟨_, Op.fieldAddr _ _ _, _, _, _, none⟩ :: _) _ _; refine SW.st (st_field rfl) rfl ?_)
    | (show SW _ _ _ _ (⟨_, Op.nilCheck _, _, _, _, none⟩ :: _) _ _; refine SW.st (st_nilCheck rfl) rfl ?_)
    | (show SW _ _ _ _ (⟨_, Op.build _ _, _, _, _, none⟩ :: _) _ _; refine SW.st (st_build rfl rfl) rfl ?_)
    | (show SW _ _ _ _ (⟨_, Op.binOp _ _ _ _ _, _, _, _, none⟩ :: _) _ _; first | refine SW.st (st_add rfl rfl (by omega) (by omega)) rfl ?_ | refine SW.st (st_sub rfl rfl (by omega) (by omega)) rfl ?_ | refine SW.st (st_mul rfl rfl (by omega) (by omega)) rfl ?_ | refine SW.st (st_quo rfl rfl (by omega) (by omega) (by omega)) rfl ?_ | refine SW.st (st_rem rfl rfl (by omega)) rfl ?_)
    | (show SW _ _ _ _ (⟨_, Op.indexAddr _ _ _, _, _, _, none⟩ :: _) _ _; refine SW.st (st_indexN rfl rfl (by assumption) (by omega)) rfl ?_)
    | (show SW _ _ _ _ (⟨_, Op.call ⟨.builtin .len, _, _⟩, _, _, _, none⟩ :: _) _ _; refine SW.st (st_len rfl) rfl ?_)
    | (show SW _ _ _ _ (⟨_, Op.call ⟨.builtin .cap, _, _⟩, _, _, _, none⟩ :: _) _ _; refine SW.st (st_cap rfl) rfl ?_))
  refine SW.alloc rfl fun b8 w3 hw3 hb8 hB8 => ?_
  have hb8w : w.heap.size ≤ b8 := Nat.le_trans hw.size hb8
  have hne1 : b ≠ b8 := by have := hB.lt; omega
  have hne5 : b5 ≠ b8 := by have := hB5.lt; omega
  have hne6 : b6 ≠ b8 := by have := hB6.lt; omega
  replace hw := Ext.trans hw hw3
  replace hB := hB.ext hw3
  replace hB5 := hB5.ext hw3
  replace hB6 := hB6.ext hw3
  replace hX := hX.ext hw3
  replace hY := hY.ext hw3
  replace h6 := h6.ext hw3
  replace h6' := h6'.ext hw3
  replace h8 := h8.ext hw3
  replace h8' := h8'.ext hw3
  refine SW.storeAgg hB8 rfl rfl rfl rfl (one_boot _ _ _ _ _ _) fun w4 hB8' hg => ?_
  replace hw := hw.own hb8w hg
  replace hX := hX.grown hg (.inr (hX.ne_blk hB8 rfl))
  replace hY := hY.grown hg (.inr (hY.ne_blk hB8 rfl))
  replace h6 := h6.grown hg (.inr (h6.ne_blk hB8 rfl))
  replace h6' := h6'.grown hg (.inr (h6'.ne_blk hB8 rfl))
  replace h8 := h8.grown hg (.inr (h8.ne_blk hB8 rfl))
  replace h8' := h8'.grown hg (.inr (h8'.ne_blk hB8 rfl))
  replace hB := hB.grown hg (by simpa using hne1)
  replace hB5 := hB5.grown hg (by simpa using hne5)
  replace hB6 := hB6.grown hg (by simpa using hne6)
  replace hB8 := hB8'
  clear hB8'
  obtain ⟨o0, o1, o2⟩ := o
  simp only at h6 h6' h8 h8' hle
  have s1 : ∀ w', Ext w w' → Sl w' 2 encR A6 n6 o1 → Sl w' 2 encR B6 m6 o2 → Sl w' 2 encR A8 n8 o1 → Sl w' 2 encR B8 m8 o2 → Ans Try.prog 39 [.agg (bootCells A6 n6 c6 B6 m6 d6).toArray, .agg (bootCells A8 n8 c8 B8 m8 d8).toArray] w' fun v _ => v = .bool true := fun w' _ a1 a2 a3 a4 => by
    have := sameBoot_ans A6 n6 c6 B6 m6 d6 A8 n8 c8 B8 m8 d8 o1 o2 o1 o2 w' a1 a2 a3 a4 (by have := a1.len; omega) (by have := a2.len; omega)
    simpa using this
  have s2 : ∀ w', Ext w w' → Sl w' 2 encR Ak nk x → Sl w' 2 encR Bk mk y → Ans Try.prog 39 [.agg (bootCells Ak nk ck Bk mk dk).toArray, .agg (bootCells A nk c B mk d).toArray] w' fun v _ => v = .bool true := fun w' h a1 a2 => by
    have := sameBoot_ans Ak nk ck Bk mk dk A nk c B mk d x y x y w' a1 a2 (hx.ext h) (hy.ext h) (by omega) (by omega)
    simpa using this
  repeat' (first
    | (show CW _ _ _ _ _ _; first | refine CW.seq ?_ | refine CW.region ?_ | refine CW.block ?_ | refine CW.condtr rfl (by with_reducible rfl) ?_ | refine CW.condfr rfl (by with_reducible rfl) ?_ | refine CW.condd_t rfl (by omega) ?_ | refine CW.condd_f rfl (by omega) ?_ | refine CW.condn_t rfl (by omega) ?_ | refine CW.condn_f rfl (by omega) ?_ | refine CW.condd rfl (fun h => ?_) (fun h => ?_) | refine CW.condn rfl (fun h => ?_) (fun h => ?_) | refine CW.condt rfl ?_ | refine CW.condf rfl ?_ | refine CW.cond rfl (fun h => ?_) (fun h => ?_) | refine CW.skip ?_ | refine CW.ret ?_ | refine CW.exit ?_)
    | (show Post _ _ _ _ _; first | refine Post.seq ?_ | refine Post.seq_ret ?_ | refine Post.seq_exit ?_ | refine Post.hit ?_ | refine Post.pass rfl ?_ | refine Post.blk ?_ | refine Post.blk_ret ?_ | refine Post.again_exit ?_ | refine Post.again_ret ?_ | refine Post.np ?_)
    | refine SW.nil ?_
    | (show SW _ _ _ _ (⟨_, _, _, _, _, some _⟩ :: _) _ _; first | refine SW.want_t rfl rfl (by with_reducible rfl) ?_ | refine SW.want_f rfl rfl (by with_reducible rfl) ?_ | refine SW.skip_t rfl rfl (by with_reducible rfl) rfl ?_ | refine SW.skip_f rfl rfl (by with_reducible rfl) rfl ?_ | refine SW.skip_u rfl rfl (by with_reducible rfl) rfl ?_ | refine SW.splitd_t rfl rfl rfl (by omega) ?_ | refine SW.splitd_f rfl rfl rfl (by omega) ?_ | refine SW.splitn_t rfl rfl rfl (by omega) ?_ | refine SW.splitn_f rfl rfl rfl (by omega) ?_ | refine SW.splitd rfl rfl rfl (fun h => ?_) (fun h => ?_) | refine SW.splitn rfl rfl rfl (fun h => ?_) (fun h => ?_) | refine SW.want rfl rfl ?_ | refine SW.skip rfl rfl rfl rfl ?_ | refine SW.skipu rfl rfl rfl ?_ | refine SW.split rfl rfl rfl (fun h => ?_) (fun h => ?_))
    | refine SW.pure rfl rfl ?_
    | (show SW _ _ _ _ (⟨_, Op.fieldAddr _ _ _, _, _, _, none⟩ :: _) _ _; refine SW.st (st_field rfl) rfl ?_)
    | (show SW _ _ _ _ (⟨_, Op.nilCheck _, _, _, _, none⟩ :: _) _ _; refine SW.st (st_nilCheck rfl) rfl ?_)
    | (show SW _ _ _ _ (⟨_, Op.build _ _, _, _, _, none⟩ :: _) _ _; refine SW.st (st_build rfl rfl) rfl ?_)
    | (show SW _ _ _ _ (⟨_, Op.binOp _ _ _ _ _, _, _, _, none⟩ :: _) _ _; first | refine SW.st (st_add rfl rfl (by omega) (by omega)) rfl ?_ | refine SW.st (st_sub rfl rfl (by omega) (by omega)) rfl ?_ | refine SW.st (st_mul rfl rfl (by omega) (by omega)) rfl ?_ | refine SW.st (st_quo rfl rfl (by omega) (by omega) (by omega)) rfl ?_ | refine SW.st (st_rem rfl rfl (by omega)) rfl ?_)
    | (show SW _ _ _ _ (⟨_, Op.indexAddr _ _ _, _, _, _, none⟩ :: _) _ _; refine SW.st (st_indexN rfl rfl (by assumption) (by omega)) rfl ?_)
    | (show SW _ _ _ _ (⟨_, Op.call ⟨.builtin .len, _, _⟩, _, _, _, none⟩ :: _) _ _; refine SW.st (st_len rfl) rfl ?_)
    | (show SW _ _ _ _ (⟨_, Op.call ⟨.builtin .cap, _, _⟩, _, _, _, none⟩ :: _) _ _; refine SW.st (st_cap rfl) rfl ?_)
    | (show SW _ _ _ _ (⟨_, Op.load _ _, _, _, _, none⟩ :: _) _ _; first | refine SW.st (st_loads rfl rfl ((fun _ _ => hB6.cell))) rfl ?_ | refine SW.st (st_loadsx hw rfl rfl ((fun _ _ => hB6.cell))) rfl ?_ | refine SW.st (st_loads rfl rfl ((fun _ _ => hB8.cell))) rfl ?_ | refine SW.st (st_loadsx hw rfl rfl ((fun _ _ => hB8.cell))) rfl ?_ | refine SW.st (st_loads rfl rfl ((fun _ _ => hB5.cell))) rfl ?_ | refine SW.st (st_loadsx hw rfl rfl ((fun _ _ => hB5.cell))) rfl ?_ | refine SW.st (st_loads rfl rfl ((fun _ _ => hB.cell))) rfl ?_ | refine SW.st (st_loadsx hw rfl rfl ((fun _ _ => hB.cell))) rfl ?_)
    | (show SW _ _ _ _ (⟨_, Op.call ⟨.value (.func _), _, _⟩, _, _, _, none⟩ :: _) _ _; first | (refine SW.call rfl rfl (s1 _ hw h6.sl h6'.sl h8.sl h8'.sl) ?_; intro v w1 hw1 hv; subst hv; replace hw := Ext.trans hw hw1; replace hB := hB.ext hw1; replace hB5 := hB5.ext hw1; replace hB6 := hB6.ext hw1; replace hB8 := hB8.ext hw1; replace hX := hX.ext hw1; replace hY := hY.ext hw1; replace h6 := h6.ext hw1; replace h6' := h6'.ext hw1; replace h8 := h8.ext hw1; replace h8' := h8'.ext hw1; clear hw1) | (refine SW.call rfl rfl (s2 _ hw hX.sl hY.sl) ?_; intro v w1 hw1 hv; subst hv; replace hw := Ext.trans hw hw1; replace hB := hB.ext hw1; replace hB5 := hB5.ext hw1; replace hB6 := hB6.ext hw1; replace hB8 := hB8.ext hw1; replace hX := hX.ext hw1; replace hY := hY.ext hw1; replace h6 := h6.ext hw1; replace h6' := h6'.ext hw1; replace h8 := h8.ext hw1; replace h8' := h8'.ext hw1; clear hw1)))
  exact Post.ret1 rfl rfl ⟨_, rfl, hw, rfl⟩

end Go.Proofs.Ytfdmgflboibdoaa
