/-
  Contract: the law Names.
-/
import Derived.Test.YtfdjfiioejegiaaN1
import Derived.Test.YtfdjfiioejegiaaR3
set_option linter.unusedVariables false
namespace Go.Proofs.Ytfdjfiioejegiaa
open Go.RowKit

theorem Own.lt {α : Type} {w : World} {lo : Nat} {e : TypeId} {sz : Nat} {enc : α → List Value} {A : Option Addr} {n c : Nat} {l : List α} (h : Own w lo e sz enc A n c l) : ∀ k, ownB A c = some k → k < w.heap.size := by
  intro k hk
  rcases h.row with ⟨_, rfl⟩ | ⟨hc, g, cur, rfl, _, h2, _⟩
  · simp [ownB] at hk
  · simp only [ownB, Nat.pos_iff_ne_zero.1 hc, if_false, Option.map_some, Option.some.injEq] at hk
    subst hk
    rcases Nat.lt_or_ge g w.heap.size with h | h
    · exact h
    · rw [Array.getElem?_eq_none h] at h2; cases h2

def allL : List Int := [16, 256, 4, 3, 3, 4, 4, 8, 40, 20, 64, 8, 4, 2, 1, 300, 1099511627776, 0, 1, 2, 1, 2, 4, 8]
def errL : List Int := [0, 1, 2, 3, 4, 5, 6, 7, 8, 9, 10]
def rest15 : List Int := [1, 2, 3, 4, 5, 6, 7, 8, 9, 10, 11, 12, 13, 14, 15]
theorem errL_at : ∀ (k : Nat) (h : k < errL.length), errL[k] = (k : Int) := by
  have : ∀ k : Fin errL.length, errL[k] = ((k.1 : Nat) : Int) := by decide
  exact fun k h => this ⟨k, h⟩
def upL (j : Nat) : List Int := (List.range j).map fun i : Nat => (i : Int) + 1

theorem names_ans (w : World) : Ans Try.prog 3 [] w fun v _ => v = .bool true := by
  refine ans_of Try.func3 rfl Try.ntmps3 rfl ?_
  have hw := Ext.refl w
  repeat' (first
    | (show CW _ _ _ _ _ _; first | refine CW.seq ?_ | refine CW.region ?_ | refine CW.block ?_ | refine CW.condt rfl ?_ | refine CW.condf rfl ?_ | refine CW.condd_t rfl (by omega) ?_ | refine CW.condd_f rfl (by omega) ?_ | refine CW.condn_t rfl (by omega) ?_ | refine CW.condn_f rfl (by omega) ?_ | refine CW.condd rfl (fun h => ?_) (fun h => ?_) | refine CW.condn rfl (fun h => ?_) (fun h => ?_) | refine CW.cond rfl (fun h => ?_) (fun h => ?_) | refine CW.skip ?_ | refine CW.ret ?_ | refine CW.exit ?_)
    | (show Post _ _ _ _ _; first | refine Post.seq ?_ | refine Post.seq_ret ?_ | refine Post.seq_exit ?_ | refine Post.hit ?_ | refine Post.pass rfl ?_ | refine Post.blk ?_ | refine Post.blk_ret ?_ | refine Post.again_exit ?_ | refine Post.again_ret ?_)
    | refine SW.nil ?_
    | (show SW _ _ _ _ (⟨_, _, _, _, _, some _⟩ :: _) _ _; first | refine SW.want rfl rfl ?_ | refine SW.skip rfl rfl rfl rfl ?_ | refine SW.skipu rfl rfl rfl ?_ | refine SW.splitd_t rfl rfl rfl (by omega) ?_ | refine SW.splitd_f rfl rfl rfl (by omega) ?_ | refine SW.splitn_t rfl rfl rfl (by omega) ?_ | refine SW.splitn_f rfl rfl rfl (by omega) ?_ | refine SW.splitd rfl rfl rfl (fun h => ?_) (fun h => ?_) | refine SW.splitn rfl rfl rfl (fun h => ?_) (fun h => ?_) | refine SW.split rfl rfl rfl (fun h => ?_) (fun h => ?_))
    | refine SW.pure rfl rfl ?_
    | (show SW _ _ _ _ (⟨_, Op.fieldAddr _ _ _, _, _, _, none⟩ :: _) _ _; refine SW.st (st_field rfl) rfl ?_)
    | (show SW _ _ _ _ (⟨_, Op.binOp _ _ _ _ _, _, _, _, none⟩ :: _) _ _; first | refine SW.st (st_add rfl rfl (by omega) (by omega)) rfl ?_ | refine SW.st (st_sub rfl rfl (by omega) (by omega)) rfl ?_ | refine SW.st (st_mul rfl rfl (by omega) (by omega)) rfl ?_ | refine SW.st (st_quo rfl rfl (by omega) (by omega) (by omega)) rfl ?_ | refine SW.st (st_rem rfl rfl (by omega)) rfl ?_)
    | (show SW _ _ _ _ (⟨_, Op.indexAddr _ _ _, _, _, _, none⟩ :: _) _ _; refine SW.st (st_indexN rfl rfl (by assumption) (by omega)) rfl ?_)
    | (show SW _ _ _ _ (⟨_, Op.call ⟨.builtin .len, _, _⟩, _, _, _, none⟩ :: _) _ _; refine SW.st (st_len rfl) rfl ?_))
  refine SW.buildFlat errL rfl rfl rfl rfl rfl fun b0 w1 hw1 hb0 hE => ?_
  replace hw := Ext.trans hw hw1
  have hE' := hE.sl
  repeat' (first
    | (show CW _ _ _ _ _ _; first | refine CW.seq ?_ | refine CW.region ?_ | refine CW.block ?_ | refine CW.condt rfl ?_ | refine CW.condf rfl ?_ | refine CW.condd_t rfl (by omega) ?_ | refine CW.condd_f rfl (by omega) ?_ | refine CW.condn_t rfl (by omega) ?_ | refine CW.condn_f rfl (by omega) ?_ | refine CW.condd rfl (fun h => ?_) (fun h => ?_) | refine CW.condn rfl (fun h => ?_) (fun h => ?_) | refine CW.cond rfl (fun h => ?_) (fun h => ?_) | refine CW.skip ?_ | refine CW.ret ?_ | refine CW.exit ?_)
    | (show Post _ _ _ _ _; first | refine Post.seq ?_ | refine Post.seq_ret ?_ | refine Post.seq_exit ?_ | refine Post.hit ?_ | refine Post.pass rfl ?_ | refine Post.blk ?_ | refine Post.blk_ret ?_ | refine Post.again_exit ?_ | refine Post.again_ret ?_)
    | refine SW.nil ?_
    | (show SW _ _ _ _ (⟨_, _, _, _, _, some _⟩ :: _) _ _; first | refine SW.want rfl rfl ?_ | refine SW.skip rfl rfl rfl rfl ?_ | refine SW.skipu rfl rfl rfl ?_ | refine SW.splitd_t rfl rfl rfl (by omega) ?_ | refine SW.splitd_f rfl rfl rfl (by omega) ?_ | refine SW.splitn_t rfl rfl rfl (by omega) ?_ | refine SW.splitn_f rfl rfl rfl (by omega) ?_ | refine SW.splitd rfl rfl rfl (fun h => ?_) (fun h => ?_) | refine SW.splitn rfl rfl rfl (fun h => ?_) (fun h => ?_) | refine SW.split rfl rfl rfl (fun h => ?_) (fun h => ?_))
    | refine SW.pure rfl rfl ?_
    | (show SW _ _ _ _ (⟨_, Op.fieldAddr _ _ _, _, _, _, none⟩ :: _) _ _; refine SW.st (st_field rfl) rfl ?_)
    | (show SW _ _ _ _ (⟨_, Op.binOp _ _ _ _ _, _, _, _, none⟩ :: _) _ _; first | refine SW.st (st_add rfl rfl (by omega) (by omega)) rfl ?_ | refine SW.st (st_sub rfl rfl (by omega) (by omega)) rfl ?_ | refine SW.st (st_mul rfl rfl (by omega) (by omega)) rfl ?_ | refine SW.st (st_quo rfl rfl (by omega) (by omega) (by omega)) rfl ?_ | refine SW.st (st_rem rfl rfl (by omega)) rfl ?_)
    | (show SW _ _ _ _ (⟨_, Op.indexAddr _ _ _, _, _, _, none⟩ :: _) _ _; refine SW.st (st_indexN rfl rfl (by assumption) (by omega)) rfl ?_)
    | (show SW _ _ _ _ (⟨_, Op.call ⟨.builtin .len, _, _⟩, _, _, _, none⟩ :: _) _ _; refine SW.st (st_len rfl) rfl ?_))
  refine CW.loop (fun k : Nat => [(1, .slice (some ⟨b0, 0, none⟩) 11 11), (2, .int .i64 (k : Int))]) (fun k w' => k ≤ 11 ∧ Ext w w' ∧ Sl w' 1 encI (some ⟨b0, 0, none⟩) 11 errL) (fun k => 11 - k) 0 ⟨rfl, rfl, trivial⟩ ⟨by omega, hw, hE'⟩ ?_
  clear hw hE hE' hw1 hb0
  clear w1
  rintro k w' ⟨hk, hw, hE⟩
  have hA : 0 < 11 → (some (⟨b0, 0, none⟩ : Addr)).isSome = true := fun _ => rfl
  by_cases hk11 : k < 11
  · have hev := errL_at k hk11
    repeat' (first
      | (show CW _ _ _ _ _ _; first | refine CW.seq ?_ | refine CW.region ?_ | refine CW.block ?_ | refine CW.condt rfl ?_ | refine CW.condf rfl ?_ | refine CW.condd_t rfl (by omega) ?_ | refine CW.condd_f rfl (by omega) ?_ | refine CW.condn_t rfl (by omega) ?_ | refine CW.condn_f rfl (by omega) ?_ | refine CW.condd rfl (fun h => ?_) (fun h => ?_) | refine CW.condn rfl (fun h => ?_) (fun h => ?_) | refine CW.cond rfl (fun h => ?_) (fun h => ?_) | refine CW.skip ?_ | refine CW.ret ?_ | refine CW.exit ?_)
      | (show Post _ _ _ _ _; first | refine Post.seq ?_ | refine Post.seq_ret ?_ | refine Post.seq_exit ?_ | refine Post.hit ?_ | refine Post.pass rfl ?_ | refine Post.blk ?_ | refine Post.blk_ret ?_ | refine Post.again_exit ?_ | refine Post.again_ret ?_)
      | refine SW.nil ?_
      | (show SW _ _ _ _ (⟨_, _, _, _, _, some _⟩ :: _) _ _; first | refine SW.want rfl rfl ?_ | refine SW.skip rfl rfl rfl rfl ?_ | refine SW.skipu rfl rfl rfl ?_ | refine SW.splitd_t rfl rfl rfl (by omega) ?_ | refine SW.splitd_f rfl rfl rfl (by omega) ?_ | refine SW.splitn_t rfl rfl rfl (by omega) ?_ | refine SW.splitn_f rfl rfl rfl (by omega) ?_ | refine SW.splitd rfl rfl rfl (fun h => ?_) (fun h => ?_) | refine SW.splitn rfl rfl rfl (fun h => ?_) (fun h => ?_) | refine SW.split rfl rfl rfl (fun h => ?_) (fun h => ?_))
      | refine SW.pure rfl rfl ?_
      | (show SW _ _ _ _ (⟨_, Op.fieldAddr _ _ _, _, _, _, none⟩ :: _) _ _; refine SW.st (st_field rfl) rfl ?_)
      | (show SW _ _ _ _ (⟨_, Op.binOp _ _ _ _ _, _, _, _, none⟩ :: _) _ _; first | refine SW.st (st_add rfl rfl (by omega) (by omega)) rfl ?_ | refine SW.st (st_sub rfl rfl (by omega) (by omega)) rfl ?_ | refine SW.st (st_mul rfl rfl (by omega) (by omega)) rfl ?_ | refine SW.st (st_quo rfl rfl (by omega) (by omega) (by omega)) rfl ?_ | refine SW.st (st_rem rfl rfl (by omega)) rfl ?_)
      | (show SW _ _ _ _ (⟨_, Op.indexAddr _ _ _, _, _, _, none⟩ :: _) _ _; refine SW.st (st_indexN rfl rfl (by assumption) (by omega)) rfl ?_)
      | (show SW _ _ _ _ (⟨_, Op.call ⟨.builtin .len, _, _⟩, _, _, _, none⟩ :: _) _ _; refine SW.st (st_len rfl) rfl ?_)
      | (show SW _ _ _ _ (⟨_, Op.load _ _, _, _, _, none⟩ :: _) _ _; first | refine SW.st (st_load rfl (hE.one hk11 rfl)) rfl ?_ | refine SW.st (st_loadx hw rfl (hE.one hk11 rfl)) rfl ?_))
    exact Post.again (k + 1) ⟨rfl, rfl, trivial⟩ (by omega) ⟨by omega, hw, hE⟩
  · repeat' (first
      | (show CW _ _ _ _ _ _; first | refine CW.seq ?_ | refine CW.region ?_ | refine CW.block ?_ | refine CW.condt rfl ?_ | refine CW.condf rfl ?_ | refine CW.condd_t rfl (by omega) ?_ | refine CW.condd_f rfl (by omega) ?_ | refine CW.condn_t rfl (by omega) ?_ | refine CW.condn_f rfl (by omega) ?_ | refine CW.condd rfl (fun h => ?_) (fun h => ?_) | refine CW.condn rfl (fun h => ?_) (fun h => ?_) | refine CW.cond rfl (fun h => ?_) (fun h => ?_) | refine CW.skip ?_ | refine CW.ret ?_ | refine CW.exit ?_)
      | (show Post _ _ _ _ _; first | refine Post.seq ?_ | refine Post.seq_ret ?_ | refine Post.seq_exit ?_ | refine Post.hit ?_ | refine Post.pass rfl ?_ | refine Post.blk ?_ | refine Post.blk_ret ?_ | refine Post.again_exit ?_ | refine Post.again_ret ?_)
      | refine SW.nil ?_
      | (show SW _ _ _ _ (⟨_, _, _, _, _, some _⟩ :: _) _ _; first | refine SW.want rfl rfl ?_ | refine SW.skip rfl rfl rfl rfl ?_ | refine SW.skipu rfl rfl rfl ?_ | refine SW.splitd_t rfl rfl rfl (by omega) ?_ | refine SW.splitd_f rfl rfl rfl (by omega) ?_ | refine SW.splitn_t rfl rfl rfl (by omega) ?_ | refine SW.splitn_f rfl rfl rfl (by omega) ?_ | refine SW.splitd rfl rfl rfl (fun h => ?_) (fun h => ?_) | refine SW.splitn rfl rfl rfl (fun h => ?_) (fun h => ?_) | refine SW.split rfl rfl rfl (fun h => ?_) (fun h => ?_))
      | refine SW.pure rfl rfl ?_
      | (show SW _ _ _ _ (⟨_, Op.fieldAddr _ _ _, _, _, _, none⟩ :: _) _ _; refine SW.st (st_field rfl) rfl ?_)
      | (show SW _ _ _ _ (⟨_, Op.binOp _ _ _ _ _, _, _, _, none⟩ :: _) _ _; first | refine SW.st (st_add rfl rfl (by omega) (by omega)) rfl ?_ | refine SW.st (st_sub rfl rfl (by omega) (by omega)) rfl ?_ | refine SW.st (st_mul rfl rfl (by omega) (by omega)) rfl ?_ | refine SW.st (st_quo rfl rfl (by omega) (by omega) (by omega)) rfl ?_ | refine SW.st (st_rem rfl rfl (by omega)) rfl ?_)
      | (show SW _ _ _ _ (⟨_, Op.indexAddr _ _ _, _, _, _, none⟩ :: _) _ _; refine SW.st (st_indexN rfl rfl (by assumption) (by omega)) rfl ?_)
      | (show SW _ _ _ _ (⟨_, Op.call ⟨.builtin .len, _, _⟩, _, _, _, none⟩ :: _) _ _; refine SW.st (st_len rfl) rfl ?_))
    refine SW.buildFlat allL rfl rfl rfl rfl rfl fun b1 w1 hw1 hb1 hO => ?_
    have hlo := hw.size
    replace hw := Ext.trans hw hw1
    replace hO := Own.low hO hlo
    repeat' (first
      | (show CW _ _ _ _ _ _; first | refine CW.seq ?_ | refine CW.region ?_ | refine CW.block ?_ | refine CW.condt rfl ?_ | refine CW.condf rfl ?_ | refine CW.condd_t rfl (by omega) ?_ | refine CW.condd_f rfl (by omega) ?_ | refine CW.condn_t rfl (by omega) ?_ | refine CW.condn_f rfl (by omega) ?_ | refine CW.condd rfl (fun h => ?_) (fun h => ?_) | refine CW.condn rfl (fun h => ?_) (fun h => ?_) | refine CW.cond rfl (fun h => ?_) (fun h => ?_) | refine CW.skip ?_ | refine CW.ret ?_ | refine CW.exit ?_)
      | (show Post _ _ _ _ _; first | refine Post.seq ?_ | refine Post.seq_ret ?_ | refine Post.seq_exit ?_ | refine Post.hit ?_ | refine Post.pass rfl ?_ | refine Post.blk ?_ | refine Post.blk_ret ?_ | refine Post.again_exit ?_ | refine Post.again_ret ?_)
      | refine SW.nil ?_
      | (show SW _ _ _ _ (⟨_, _, _, _, _, some _⟩ :: _) _ _; first | refine SW.want rfl rfl ?_ | refine SW.skip rfl rfl rfl rfl ?_ | refine SW.skipu rfl rfl rfl ?_ | refine SW.splitd_t rfl rfl rfl (by omega) ?_ | refine SW.splitd_f rfl rfl rfl (by omega) ?_ | refine SW.splitn_t rfl rfl rfl (by omega) ?_ | refine SW.splitn_f rfl rfl rfl (by omega) ?_ | refine SW.splitd rfl rfl rfl (fun h => ?_) (fun h => ?_) | refine SW.splitn rfl rfl rfl (fun h => ?_) (fun h => ?_) | refine SW.split rfl rfl rfl (fun h => ?_) (fun h => ?_))
      | refine SW.pure rfl rfl ?_
      | (show SW _ _ _ _ (⟨_, Op.fieldAddr _ _ _, _, _, _, none⟩ :: _) _ _; refine SW.st (st_field rfl) rfl ?_)
      | (show SW _ _ _ _ (⟨_, Op.binOp _ _ _ _ _, _, _, _, none⟩ :: _) _ _; first | refine SW.st (st_add rfl rfl (by omega) (by omega)) rfl ?_ | refine SW.st (st_sub rfl rfl (by omega) (by omega)) rfl ?_ | refine SW.st (st_mul rfl rfl (by omega) (by omega)) rfl ?_ | refine SW.st (st_quo rfl rfl (by omega) (by omega) (by omega)) rfl ?_ | refine SW.st (st_rem rfl rfl (by omega)) rfl ?_)
      | (show SW _ _ _ _ (⟨_, Op.indexAddr _ _ _, _, _, _, none⟩ :: _) _ _; refine SW.st (st_indexN rfl rfl (by assumption) (by omega)) rfl ?_)
      | (show SW _ _ _ _ (⟨_, Op.call ⟨.builtin .len, _, _⟩, _, _, _, none⟩ :: _) _ _; refine SW.st (st_len rfl) rfl ?_))
    refine SW.buildFlat allL rfl rfl rfl rfl rfl fun b2 w2 hw2 hb2 hP => ?_
    have hlo2 := hw.size
    replace hw := Ext.trans hw hw2
    replace hP := Own.low hP hlo2
    replace hO := hO.ext hw2
    repeat' (first
      | (show CW _ _ _ _ _ _; first | refine CW.seq ?_ | refine CW.region ?_ | refine CW.block ?_ | refine CW.condt rfl ?_ | refine CW.condf rfl ?_ | refine CW.condd_t rfl (by omega) ?_ | refine CW.condd_f rfl (by omega) ?_ | refine CW.condn_t rfl (by omega) ?_ | refine CW.condn_f rfl (by omega) ?_ | refine CW.condd rfl (fun h => ?_) (fun h => ?_) | refine CW.condn rfl (fun h => ?_) (fun h => ?_) | refine CW.cond rfl (fun h => ?_) (fun h => ?_) | refine CW.skip ?_ | refine CW.ret ?_ | refine CW.exit ?_)
      | (show Post _ _ _ _ _; first | refine Post.seq ?_ | refine Post.seq_ret ?_ | refine Post.seq_exit ?_ | refine Post.hit ?_ | refine Post.pass rfl ?_ | refine Post.blk ?_ | refine Post.blk_ret ?_ | refine Post.again_exit ?_ | refine Post.again_ret ?_)
      | refine SW.nil ?_
      | (show SW _ _ _ _ (⟨_, _, _, _, _, some _⟩ :: _) _ _; first | refine SW.want rfl rfl ?_ | refine SW.skip rfl rfl rfl rfl ?_ | refine SW.skipu rfl rfl rfl ?_ | refine SW.splitd_t rfl rfl rfl (by omega) ?_ | refine SW.splitd_f rfl rfl rfl (by omega) ?_ | refine SW.splitn_t rfl rfl rfl (by omega) ?_ | refine SW.splitn_f rfl rfl rfl (by omega) ?_ | refine SW.splitd rfl rfl rfl (fun h => ?_) (fun h => ?_) | refine SW.splitn rfl rfl rfl (fun h => ?_) (fun h => ?_) | refine SW.split rfl rfl rfl (fun h => ?_) (fun h => ?_))
      | refine SW.pure rfl rfl ?_
      | (show SW _ _ _ _ (⟨_, Op.fieldAddr _ _ _, _, _, _, none⟩ :: _) _ _; refine SW.st (st_field rfl) rfl ?_)
      | (show SW _ _ _ _ (⟨_, Op.binOp _ _ _ _ _, _, _, _, none⟩ :: _) _ _; first | refine SW.st (st_add rfl rfl (by omega) (by omega)) rfl ?_ | refine SW.st (st_sub rfl rfl (by omega) (by omega)) rfl ?_ | refine SW.st (st_mul rfl rfl (by omega) (by omega)) rfl ?_ | refine SW.st (st_quo rfl rfl (by omega) (by omega) (by omega)) rfl ?_ | refine SW.st (st_rem rfl rfl (by omega)) rfl ?_)
      | (show SW _ _ _ _ (⟨_, Op.indexAddr _ _ _, _, _, _, none⟩ :: _) _ _; refine SW.st (st_indexN rfl rfl (by assumption) (by omega)) rfl ?_)
      | (show SW _ _ _ _ (⟨_, Op.call ⟨.builtin .len, _, _⟩, _, _, _, none⟩ :: _) _ _; refine SW.st (st_len rfl) rfl ?_))
    refine SW.buildFlat rest15 rfl rfl rfl rfl rfl fun b3 w3 hw3 hb3 hR => ?_
    replace hw := Ext.trans hw hw3
    replace hO := hO.ext hw3
    replace hP := hP.ext hw3
    refine SW.append2 hO hR.sl hw.size (by omega) rfl rfl rfl (by omega) (by omega) fun A4 c4 w4 h4 => ?_
    rcases h4 with ⟨_, _, h4, _⟩ | ⟨h4, hg⟩
    · have := h4.le; omega
    have hne : ownB (some (⟨b2, 0, none⟩ : Addr)) 24 ≠ ownB A4 c4 := fun e => by
      have h1 := hP.lt b2 (by simp [ownB])
      have h2 := h4.row_ge b2 (by rw [← e]; simp [ownB])
      omega
    replace hP := hP.grown hg (Classical.em _)
    have h5 := Own.low h4 hw.size
    replace hw := ext_grown hw hg (Nat.le_refl _) (by simp)
    repeat' (first
      | (show CW _ _ _ _ _ _; first | refine CW.seq ?_ | refine CW.region ?_ | refine CW.block ?_ | refine CW.condt rfl ?_ | refine CW.condf rfl ?_ | refine CW.condd_t rfl (by omega) ?_ | refine CW.condd_f rfl (by omega) ?_ | refine CW.condn_t rfl (by omega) ?_ | refine CW.condn_f rfl (by omega) ?_ | refine CW.condd rfl (fun h => ?_) (fun h => ?_) | refine CW.condn rfl (fun h => ?_) (fun h => ?_) | refine CW.cond rfl (fun h => ?_) (fun h => ?_) | refine CW.skip ?_ | refine CW.ret ?_ | refine CW.exit ?_)
      | (show Post _ _ _ _ _; first | refine Post.seq ?_ | refine Post.seq_ret ?_ | refine Post.seq_exit ?_ | refine Post.hit ?_ | refine Post.pass rfl ?_ | refine Post.blk ?_ | refine Post.blk_ret ?_ | refine Post.again_exit ?_ | refine Post.again_ret ?_)
      | refine SW.nil ?_
      | (show SW _ _ _ _ (⟨_, _, _, _, _, some _⟩ :: _) _ _; first | refine SW.want rfl rfl ?_ | refine SW.skip rfl rfl rfl rfl ?_ | refine SW.skipu rfl rfl rfl ?_ | refine SW.splitd_t rfl rfl rfl (by omega) ?_ | refine SW.splitd_f rfl rfl rfl (by omega) ?_ | refine SW.splitn_t rfl rfl rfl (by omega) ?_ | refine SW.splitn_f rfl rfl rfl (by omega) ?_ | refine SW.splitd rfl rfl rfl (fun h => ?_) (fun h => ?_) | refine SW.splitn rfl rfl rfl (fun h => ?_) (fun h => ?_) | refine SW.split rfl rfl rfl (fun h => ?_) (fun h => ?_))
      | refine SW.pure rfl rfl ?_
      | (show SW _ _ _ _ (⟨_, Op.fieldAddr _ _ _, _, _, _, none⟩ :: _) _ _; refine SW.st (st_field rfl) rfl ?_)
      | (show SW _ _ _ _ (⟨_, Op.binOp _ _ _ _ _, _, _, _, none⟩ :: _) _ _; first | refine SW.st (st_add rfl rfl (by omega) (by omega)) rfl ?_ | refine SW.st (st_sub rfl rfl (by omega) (by omega)) rfl ?_ | refine SW.st (st_mul rfl rfl (by omega) (by omega)) rfl ?_ | refine SW.st (st_quo rfl rfl (by omega) (by omega) (by omega)) rfl ?_ | refine SW.st (st_rem rfl rfl (by omega)) rfl ?_)
      | (show SW _ _ _ _ (⟨_, Op.indexAddr _ _ _, _, _, _, none⟩ :: _) _ _; refine SW.st (st_indexN rfl rfl (by assumption) (by omega)) rfl ?_)
      | (show SW _ _ _ _ (⟨_, Op.call ⟨.builtin .len, _, _⟩, _, _, _, none⟩ :: _) _ _; refine SW.st (st_len rfl) rfl ?_))
    refine CW.loop (fun s : Nat × Option Addr × Nat => [(3, .slice A4 39 c4), (4, .slice s.2.1 (24 + s.1) s.2.2), (5, .int .i64 ((s.1 : Int) + 1))])
      (fun s w' => s.1 ≤ 15 ∧ Ext w w' ∧ Own w' w.heap.size 3 1 encI A4 39 c4 (allL ++ rest15) ∧ Own w' w.heap.size 3 1 encI s.2.1 (24 + s.1) s.2.2 (allL ++ upL s.1) ∧ ownB s.2.1 s.2.2 ≠ ownB A4 c4) (fun s => 15 - s.1)
      (0, some ⟨b2, 0, none⟩, 24) ⟨rfl, rfl, rfl, trivial⟩ ⟨by simp only; omega, hw, h5, hP, hne⟩ ?_
    clear hw hO hP h4 h5 hR hE hg hne
    rintro ⟨j, B, d⟩ w5 ⟨hj, hw, hO, hP, hne⟩
    simp only at hj hO hP hne ⊢
    by_cases hj15 : j < 15
    · repeat' (first
        | (show CW _ _ _ _ _ _; first | refine CW.seq ?_ | refine CW.region ?_ | refine CW.block ?_ | refine CW.condt rfl ?_ | refine CW.condf rfl ?_ | refine CW.condd_t rfl (by omega) ?_ | refine CW.condd_f rfl (by omega) ?_ | refine CW.condn_t rfl (by omega) ?_ | refine CW.condn_f rfl (by omega) ?_ | refine CW.condd rfl (fun h => ?_) (fun h => ?_) | refine CW.condn rfl (fun h => ?_) (fun h => ?_) | refine CW.cond rfl (fun h => ?_) (fun h => ?_) | refine CW.skip ?_ | refine CW.ret ?_ | refine CW.exit ?_)
        | (show Post _ _ _ _ _; first | refine Post.seq ?_ | refine Post.seq_ret ?_ | refine Post.seq_exit ?_ | refine Post.hit ?_ | refine Post.pass rfl ?_ | refine Post.blk ?_ | refine Post.blk_ret ?_ | refine Post.again_exit ?_ | refine Post.again_ret ?_)
        | refine SW.nil ?_
        | (show SW _ _ _ _ (⟨_, _, _, _, _, some _⟩ :: _) _ _; first | refine SW.want rfl rfl ?_ | refine SW.skip rfl rfl rfl rfl ?_ | refine SW.skipu rfl rfl rfl ?_ | refine SW.splitd_t rfl rfl rfl (by omega) ?_ | refine SW.splitd_f rfl rfl rfl (by omega) ?_ | refine SW.splitn_t rfl rfl rfl (by omega) ?_ | refine SW.splitn_f rfl rfl rfl (by omega) ?_ | refine SW.splitd rfl rfl rfl (fun h => ?_) (fun h => ?_) | refine SW.splitn rfl rfl rfl (fun h => ?_) (fun h => ?_) | refine SW.split rfl rfl rfl (fun h => ?_) (fun h => ?_))
        | refine SW.pure rfl rfl ?_
        | (show SW _ _ _ _ (⟨_, Op.fieldAddr _ _ _, _, _, _, none⟩ :: _) _ _; refine SW.st (st_field rfl) rfl ?_)
        | (show SW _ _ _ _ (⟨_, Op.binOp _ _ _ _ _, _, _, _, none⟩ :: _) _ _; first | refine SW.st (st_add rfl rfl (by omega) (by omega)) rfl ?_ | refine SW.st (st_sub rfl rfl (by omega) (by omega)) rfl ?_ | refine SW.st (st_mul rfl rfl (by omega) (by omega)) rfl ?_ | refine SW.st (st_quo rfl rfl (by omega) (by omega) (by omega)) rfl ?_ | refine SW.st (st_rem rfl rfl (by omega)) rfl ?_)
        | (show SW _ _ _ _ (⟨_, Op.indexAddr _ _ _, _, _, _, none⟩ :: _) _ _; refine SW.st (st_indexN rfl rfl (by assumption) (by omega)) rfl ?_)
        | (show SW _ _ _ _ (⟨_, Op.call ⟨.builtin .len, _, _⟩, _, _, _, none⟩ :: _) _ _; refine SW.st (st_len rfl) rfl ?_))
      refine SW.build1 rfl rfl rfl rfl rfl fun b w6 hw6 hb hB => ?_
      replace hw := Ext.trans hw hw6
      replace hO := hO.ext hw6
      replace hP := hP.ext hw6
      refine SW.append2 hP (Blk.sl1 (enc := encI) hB) hw.size (by omega) rfl rfl rfl (by omega) (by omega) fun B' d' w7 h7 => ?_
      have hup : allL ++ upL (j + 1) = allL ++ upL j ++ [(j : Int) + 1] := by simp [upL, List.range_succ]
      rcases h7 with ⟨rfl, rfl, h7, hg⟩ | ⟨h7, hg⟩
      · replace hw := ext_grown hw hg (Nat.le_refl _) hP.row_ge
        replace hO := hO.grown hg (.inr fun e => hne e.symm)
        repeat' (first
          | (show CW _ _ _ _ _ _; first | refine CW.seq ?_ | refine CW.region ?_ | refine CW.block ?_ | refine CW.condt rfl ?_ | refine CW.condf rfl ?_ | refine CW.condd_t rfl (by omega) ?_ | refine CW.condd_f rfl (by omega) ?_ | refine CW.condn_t rfl (by omega) ?_ | refine CW.condn_f rfl (by omega) ?_ | refine CW.condd rfl (fun h => ?_) (fun h => ?_) | refine CW.condn rfl (fun h => ?_) (fun h => ?_) | refine CW.cond rfl (fun h => ?_) (fun h => ?_) | refine CW.skip ?_ | refine CW.ret ?_ | refine CW.exit ?_)
          | (show Post _ _ _ _ _; first | refine Post.seq ?_ | refine Post.seq_ret ?_ | refine Post.seq_exit ?_ | refine Post.hit ?_ | refine Post.pass rfl ?_ | refine Post.blk ?_ | refine Post.blk_ret ?_ | refine Post.again_exit ?_ | refine Post.again_ret ?_)
          | refine SW.nil ?_
          | (show SW _ _ _ _ (⟨_, _, _, _, _, some _⟩ :: _) _ _; first | refine SW.want rfl rfl ?_ | refine SW.skip rfl rfl rfl rfl ?_ | refine SW.skipu rfl rfl rfl ?_ | refine SW.splitd_t rfl rfl rfl (by omega) ?_ | refine SW.splitd_f rfl rfl rfl (by omega) ?_ | refine SW.splitn_t rfl rfl rfl (by omega) ?_ | refine SW.splitn_f rfl rfl rfl (by omega) ?_ | refine SW.splitd rfl rfl rfl (fun h => ?_) (fun h => ?_) | refine SW.splitn rfl rfl rfl (fun h => ?_) (fun h => ?_) | refine SW.split rfl rfl rfl (fun h => ?_) (fun h => ?_))
          | refine SW.pure rfl rfl ?_
          | (show SW _ _ _ _ (⟨_, Op.fieldAddr _ _ _, _, _, _, none⟩ :: _) _ _; refine SW.st (st_field rfl) rfl ?_)
          | (show SW _ _ _ _ (⟨_, Op.binOp _ _ _ _ _, _, _, _, none⟩ :: _) _ _; first | refine SW.st (st_add rfl rfl (by omega) (by omega)) rfl ?_ | refine SW.st (st_sub rfl rfl (by omega) (by omega)) rfl ?_ | refine SW.st (st_mul rfl rfl (by omega) (by omega)) rfl ?_ | refine SW.st (st_quo rfl rfl (by omega) (by omega) (by omega)) rfl ?_ | refine SW.st (st_rem rfl rfl (by omega)) rfl ?_)
          | (show SW _ _ _ _ (⟨_, Op.indexAddr _ _ _, _, _, _, none⟩ :: _) _ _; refine SW.st (st_indexN rfl rfl (by assumption) (by omega)) rfl ?_)
          | (show SW _ _ _ _ (⟨_, Op.call ⟨.builtin .len, _, _⟩, _, _, _, none⟩ :: _) _ _; refine SW.st (st_len rfl) rfl ?_))
        exact Post.again (j + 1, _, _) ⟨rfl, rfl, rfl, trivial⟩ (by simp only; omega) ⟨by simp only; omega, hw, hO, by simp only; rw [hup]; exact h7, hne⟩
      · have hne' : ownB B' d' ≠ ownB A4 c4 := fun e => by
          cases hq : ownB B' d' with
          | none =>
            rcases h7.row with ⟨h0, _⟩ | ⟨hc, g, cur, rfl, _⟩
            · omega
            · simp [ownB, Nat.pos_iff_ne_zero.1 hc] at hq
          | some q =>
            have h1 := h7.row_ge q hq
            have h2 := hO.lt q (by rw [← e]; exact hq)
            omega
        have h8 := Own.low h7 hw.size
        replace hO := hO.grown hg (Classical.em _)
        replace hw := ext_grown hw hg (Nat.le_refl _) (by simp)
        repeat' (first
          | (show CW _ _ _ _ _ _; first | refine CW.seq ?_ | refine CW.region ?_ | refine CW.block ?_ | refine CW.condt rfl ?_ | refine CW.condf rfl ?_ | refine CW.condd_t rfl (by omega) ?_ | refine CW.condd_f rfl (by omega) ?_ | refine CW.condn_t rfl (by omega) ?_ | refine CW.condn_f rfl (by omega) ?_ | refine CW.condd rfl (fun h => ?_) (fun h => ?_) | refine CW.condn rfl (fun h => ?_) (fun h => ?_) | refine CW.cond rfl (fun h => ?_) (fun h => ?_) | refine CW.skip ?_ | refine CW.ret ?_ | refine CW.exit ?_)
          | (show Post _ _ _ _ _; first | refine Post.seq ?_ | refine Post.seq_ret ?_ | refine Post.seq_exit ?_ | refine Post.hit ?_ | refine Post.pass rfl ?_ | refine Post.blk ?_ | refine Post.blk_ret ?_ | refine Post.again_exit ?_ | refine Post.again_ret ?_)
          | refine SW.nil ?_
          | (show SW _ _ _ _ (⟨_, _, _, _, _, some _⟩ :: _) _ _; first | refine SW.want rfl rfl ?_ | refine SW.skip rfl rfl rfl rfl ?_ | refine SW.skipu rfl rfl rfl ?_ | refine SW.splitd_t rfl rfl rfl (by omega) ?_ | refine SW.splitd_f rfl rfl rfl (by omega) ?_ | refine SW.splitn_t rfl rfl rfl (by omega) ?_ | refine SW.splitn_f rfl rfl rfl (by omega) ?_ | refine SW.splitd rfl rfl rfl (fun h => ?_) (fun h => ?_) | refine SW.splitn rfl rfl rfl (fun h => ?_) (fun h => ?_) | refine SW.split rfl rfl rfl (fun h => ?_) (fun h => ?_))
          | refine SW.pure rfl rfl ?_
          | (show SW _ _ _ _ (⟨_, Op.fieldAddr _ _ _, _, _, _, none⟩ :: _) _ _; refine SW.st (st_field rfl) rfl ?_)
          | (show SW _ _ _ _ (⟨_, Op.binOp _ _ _ _ _, _, _, _, none⟩ :: _) _ _; first | refine SW.st (st_add rfl rfl (by omega) (by omega)) rfl ?_ | refine SW.st (st_sub rfl rfl (by omega) (by omega)) rfl ?_ | refine SW.st (st_mul rfl rfl (by omega) (by omega)) rfl ?_ | refine SW.st (st_quo rfl rfl (by omega) (by omega) (by omega)) rfl ?_ | refine SW.st (st_rem rfl rfl (by omega)) rfl ?_)
          | (show SW _ _ _ _ (⟨_, Op.indexAddr _ _ _, _, _, _, none⟩ :: _) _ _; refine SW.st (st_indexN rfl rfl (by assumption) (by omega)) rfl ?_)
          | (show SW _ _ _ _ (⟨_, Op.call ⟨.builtin .len, _, _⟩, _, _, _, none⟩ :: _) _ _; refine SW.st (st_len rfl) rfl ?_))
        exact Post.again (j + 1, B', d') ⟨rfl, rfl, rfl, trivial⟩ (by simp only; omega) ⟨by simp only; omega, hw, hO, by simp only; rw [hup]; exact h8, hne'⟩
    · obtain rfl : j = 15 := by omega
      have hsame : allL ++ upL 15 = allL ++ rest15 := by decide
      rw [hsame] at hP
      repeat' (first
        | (show CW _ _ _ _ _ _; first | refine CW.seq ?_ | refine CW.region ?_ | refine CW.block ?_ | refine CW.condt rfl ?_ | refine CW.condf rfl ?_ | refine CW.condd_t rfl (by omega) ?_ | refine CW.condd_f rfl (by omega) ?_ | refine CW.condn_t rfl (by omega) ?_ | refine CW.condn_f rfl (by omega) ?_ | refine CW.condd rfl (fun h => ?_) (fun h => ?_) | refine CW.condn rfl (fun h => ?_) (fun h => ?_) | refine CW.cond rfl (fun h => ?_) (fun h => ?_) | refine CW.skip ?_ | refine CW.ret ?_ | refine CW.exit ?_)
        | (show Post _ _ _ _ _; first | refine Post.seq ?_ | refine Post.seq_ret ?_ | refine Post.seq_exit ?_ | refine Post.hit ?_ | refine Post.pass rfl ?_ | refine Post.blk ?_ | refine Post.blk_ret ?_ | refine Post.again_exit ?_ | refine Post.again_ret ?_)
        | refine SW.nil ?_
        | (show SW _ _ _ _ (⟨_, _, _, _, _, some _⟩ :: _) _ _; first | refine SW.want rfl rfl ?_ | refine SW.skip rfl rfl rfl rfl ?_ | refine SW.skipu rfl rfl rfl ?_ | refine SW.splitd_t rfl rfl rfl (by omega) ?_ | refine SW.splitd_f rfl rfl rfl (by omega) ?_ | refine SW.splitn_t rfl rfl rfl (by omega) ?_ | refine SW.splitn_f rfl rfl rfl (by omega) ?_ | refine SW.splitd rfl rfl rfl (fun h => ?_) (fun h => ?_) | refine SW.splitn rfl rfl rfl (fun h => ?_) (fun h => ?_) | refine SW.split rfl rfl rfl (fun h => ?_) (fun h => ?_))
        | refine SW.pure rfl rfl ?_
        | (show SW _ _ _ _ (⟨_, Op.fieldAddr _ _ _, _, _, _, none⟩ :: _) _ _; refine SW.st (st_field rfl) rfl ?_)
        | (show SW _ _ _ _ (⟨_, Op.binOp _ _ _ _ _, _, _, _, none⟩ :: _) _ _; first | refine SW.st (st_add rfl rfl (by omega) (by omega)) rfl ?_ | refine SW.st (st_sub rfl rfl (by omega) (by omega)) rfl ?_ | refine SW.st (st_mul rfl rfl (by omega) (by omega)) rfl ?_ | refine SW.st (st_quo rfl rfl (by omega) (by omega) (by omega)) rfl ?_ | refine SW.st (st_rem rfl rfl (by omega)) rfl ?_)
        | (show SW _ _ _ _ (⟨_, Op.indexAddr _ _ _, _, _, _, none⟩ :: _) _ _; refine SW.st (st_indexN rfl rfl (by assumption) (by omega)) rfl ?_)
        | (show SW _ _ _ _ (⟨_, Op.call ⟨.builtin .len, _, _⟩, _, _, _, none⟩ :: _) _ _; refine SW.st (st_len rfl) rfl ?_))
      refine CW.loop (fun k : Nat => [(3, .slice A4 39 c4), (4, .slice B 39 d), (6, .int .i64 (k : Int))]) (fun k w' => k ≤ 39 ∧ Ext w w' ∧ Sl w' 1 encI A4 39 (allL ++ rest15) ∧ Sl w' 1 encI B 39 (allL ++ rest15)) (fun k => 39 - k) 0 ⟨rfl, rfl, rfl, trivial⟩ ⟨by omega, hw, hO.sl, hP.sl⟩ ?_
      clear hw hO hP
      rintro k w8 ⟨hk, hw, hO, hP⟩
      have hA := hO.base
      have hA' := hP.base
      by_cases hk39 : k < 39
      · have hq1 := hO.one (u := .int .i64 ((allL ++ rest15)[k]'(hO.lt hk39))) hk39 rfl
        have hq2 := hP.one (u := .int .i64 ((allL ++ rest15)[k]'(hO.lt hk39))) hk39 rfl
        generalize (allL ++ rest15)[k]'(hO.lt hk39) = q at hq1 hq2
        repeat' (first
          | (show CW _ _ _ _ _ _; first | refine CW.seq ?_ | refine CW.region ?_ | refine CW.block ?_ | refine CW.condt rfl ?_ | refine CW.condf rfl ?_ | refine CW.condd_t rfl (by omega) ?_ | refine CW.condd_f rfl (by omega) ?_ | refine CW.condn_t rfl (by omega) ?_ | refine CW.condn_f rfl (by omega) ?_ | refine CW.condd rfl (fun h => ?_) (fun h => ?_) | refine CW.condn rfl (fun h => ?_) (fun h => ?_) | refine CW.cond rfl (fun h => ?_) (fun h => ?_) | refine CW.skip ?_ | refine CW.ret ?_ | refine CW.exit ?_ | (apply CW.quiet1 mixed; (· kernel_rfl); rotate_left; intro w1 hw1; replace hw := Ext.trans hw hw1; replace hO := hO.ext hw1; replace hP := hP.ext hw1; clear hw1; rotate_right))
          | (show Post _ _ _ _ _; first | refine Post.seq ?_ | refine Post.seq_ret ?_ | refine Post.seq_exit ?_ | refine Post.hit ?_ | refine Post.pass rfl ?_ | refine Post.blk ?_ | refine Post.blk_ret ?_ | refine Post.again_exit ?_ | refine Post.again_ret ?_)
          | refine SW.nil ?_
          | (show SW _ _ _ _ (⟨_, _, _, _, _, some _⟩ :: _) _ _; first | refine SW.want rfl rfl ?_ | refine SW.skip rfl rfl rfl rfl ?_ | refine SW.skipu rfl rfl rfl ?_ | refine SW.splitd_t rfl rfl rfl (by omega) ?_ | refine SW.splitd_f rfl rfl rfl (by omega) ?_ | refine SW.splitn_t rfl rfl rfl (by omega) ?_ | refine SW.splitn_f rfl rfl rfl (by omega) ?_ | refine SW.splitd rfl rfl rfl (fun h => ?_) (fun h => ?_) | refine SW.splitn rfl rfl rfl (fun h => ?_) (fun h => ?_) | refine SW.split rfl rfl rfl (fun h => ?_) (fun h => ?_))
          | refine SW.pure rfl rfl ?_
          | (show SW _ _ _ _ (⟨_, Op.fieldAddr _ _ _, _, _, _, none⟩ :: _) _ _; refine SW.st (st_field rfl) rfl ?_)
          | (show SW _ _ _ _ (⟨_, Op.binOp _ _ _ _ _, _, _, _, none⟩ :: _) _ _; first | refine SW.st (st_add rfl rfl (by omega) (by omega)) rfl ?_ | refine SW.st (st_sub rfl rfl (by omega) (by omega)) rfl ?_ | refine SW.st (st_mul rfl rfl (by omega) (by omega)) rfl ?_ | refine SW.st (st_quo rfl rfl (by omega) (by omega) (by omega)) rfl ?_ | refine SW.st (st_rem rfl rfl (by omega)) rfl ?_)
          | (show SW _ _ _ _ (⟨_, Op.indexAddr _ _ _, _, _, _, none⟩ :: _) _ _; refine SW.st (st_indexN rfl rfl (by assumption) (by omega)) rfl ?_)
          | (show SW _ _ _ _ (⟨_, Op.call ⟨.builtin .len, _, _⟩, _, _, _, none⟩ :: _) _ _; refine SW.st (st_len rfl) rfl ?_)
          | (show SW _ _ _ _ (⟨_, Op.load _ _, _, _, _, none⟩ :: _) _ _; first | refine SW.st (st_load rfl hq1) rfl ?_ | refine SW.st (st_loadx hw rfl hq1) rfl ?_ | refine SW.st (st_load rfl hq2) rfl ?_ | refine SW.st (st_loadx hw rfl hq2) rfl ?_)
          | exact SW.qnil rfl)
        exact Post.again (k + 1) ⟨rfl, rfl, rfl, trivial⟩ (by omega) ⟨by omega, hw, hO, hP⟩
      · repeat' (first
          | (show CW _ _ _ _ _ _; first | refine CW.seq ?_ | refine CW.region ?_ | refine CW.block ?_ | refine CW.condt rfl ?_ | refine CW.condf rfl ?_ | refine CW.condd_t rfl (by omega) ?_ | refine CW.condd_f rfl (by omega) ?_ | refine CW.condn_t rfl (by omega) ?_ | refine CW.condn_f rfl (by omega) ?_ | refine CW.condd rfl (fun h => ?_) (fun h => ?_) | refine CW.condn rfl (fun h => ?_) (fun h => ?_) | refine CW.cond rfl (fun h => ?_) (fun h => ?_) | refine CW.skip ?_ | refine CW.ret ?_ | refine CW.exit ?_)
          | (show Post _ _ _ _ _; first | refine Post.seq ?_ | refine Post.seq_ret ?_ | refine Post.seq_exit ?_ | refine Post.hit ?_ | refine Post.pass rfl ?_ | refine Post.blk ?_ | refine Post.blk_ret ?_ | refine Post.again_exit ?_ | refine Post.again_ret ?_)
          | refine SW.nil ?_
          | (show SW _ _ _ _ (⟨_, _, _, _, _, some _⟩ :: _) _ _; first | refine SW.want rfl rfl ?_ | refine SW.skip rfl rfl rfl rfl ?_ | refine SW.skipu rfl rfl rfl ?_ | refine SW.splitd_t rfl rfl rfl (by omega) ?_ | refine SW.splitd_f rfl rfl rfl (by omega) ?_ | refine SW.splitn_t rfl rfl rfl (by omega) ?_ | refine SW.splitn_f rfl rfl rfl (by omega) ?_ | refine SW.splitd rfl rfl rfl (fun h => ?_) (fun h => ?_) | refine SW.splitn rfl rfl rfl (fun h => ?_) (fun h => ?_) | refine SW.split rfl rfl rfl (fun h => ?_) (fun h => ?_))
          | refine SW.pure rfl rfl ?_
          | (show SW _ _ _ _ (⟨_, Op.fieldAddr _ _ _, _, _, _, none⟩ :: _) _ _; refine SW.st (st_field rfl) rfl ?_)
          | (show SW _ _ _ _ (⟨_, Op.binOp _ _ _ _ _, _, _, _, none⟩ :: _) _ _; first | refine SW.st (st_add rfl rfl (by omega) (by omega)) rfl ?_ | refine SW.st (st_sub rfl rfl (by omega) (by omega)) rfl ?_ | refine SW.st (st_mul rfl rfl (by omega) (by omega)) rfl ?_ | refine SW.st (st_quo rfl rfl (by omega) (by omega) (by omega)) rfl ?_ | refine SW.st (st_rem rfl rfl (by omega)) rfl ?_)
          | (show SW _ _ _ _ (⟨_, Op.indexAddr _ _ _, _, _, _, none⟩ :: _) _ _; refine SW.st (st_indexN rfl rfl (by assumption) (by omega)) rfl ?_)
          | (show SW _ _ _ _ (⟨_, Op.call ⟨.builtin .len, _, _⟩, _, _, _, none⟩ :: _) _ _; refine SW.st (st_len rfl) rfl ?_))
        exact Post.ret1 rfl rfl ⟨_, rfl, hw, rfl⟩
end Go.Proofs.Ytfdjfiioejegiaa
