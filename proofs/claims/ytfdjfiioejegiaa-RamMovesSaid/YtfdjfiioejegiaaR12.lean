/-
  Contracts: ram.Move and its reference; the law RamMoves.
-/
import Derived.Test.YtfdjfiioejegiaaR3
import Derived.Test.YtfdjfiioejegiaaCopy
set_option linter.unusedVariables false
namespace Go.Proofs.Ytfdjfiioejegiaa
open Go.RowKit

def moved (l : List Int) (t f k : Nat) : List Int := l.take t ++ (l.drop f).take k ++ l.drop (t + k)
theorem moved_len {l : List Int} {t f k : Nat} (h1 : t + k ≤ l.length) (h2 : f + k ≤ l.length) : (moved l t f k).length = l.length := by simp [moved]; omega
theorem moved_get {l : List Int} {t f k : Nat} (h1 : t + k ≤ l.length) (h2 : f + k ≤ l.length) (j : Nat) : (moved l t f k)[j]? = if j < t then l[j]? else if j < t + k then l[f + (j - t)]? else l[j]? := by
  have e1 : (l.take t).length = t := by simp; omega
  have e2 : ((l.drop f).take k).length = k := by simp; omega
  unfold moved
  by_cases ha : j < t
  · rw [if_pos ha, List.getElem?_append_left (by rw [List.length_append]; omega), List.getElem?_append_left (by omega), List.getElem?_take_of_lt ha]
  · rw [if_neg ha]
    by_cases hb : j < t + k
    · rw [if_pos hb, List.getElem?_append_left (by rw [List.length_append]; omega), List.getElem?_append_right (by omega), e1, List.getElem?_take_of_lt (by omega), List.getElem?_drop]
    · rw [if_neg hb, List.getElem?_append_right (by rw [List.length_append]; omega), List.length_append, e1, e2, List.getElem?_drop]
      congr 1
      omega
theorem moved_succ {l : List Int} {t f k : Nat} (h1 : t + k < l.length) (h2 : f + k < l.length) : (moved l t f k).set (t + k) (l[f + k]) = moved l t f (k + 1) := by
  apply List.ext_getElem?
  intro j
  have hlen := moved_len (l := l) (t := t) (f := f) (k := k) (by omega) (by omega)
  rw [List.getElem?_set, moved_get (by omega) (by omega), moved_get (by omega) (by omega)]
  by_cases ha : t + k = j
  · subst ha
    rw [if_pos rfl, if_pos (by omega), if_neg (by omega), if_pos (by omega), show f + (t + k - t) = f + k by omega, List.getElem?_eq_getElem h2]
  · rw [if_neg ha]
    by_cases hb : j < t
    · rw [if_pos hb, if_pos hb]
    · rw [if_neg hb, if_neg hb]
      by_cases hc : j < t + k
      · rw [if_pos hc, if_pos (by omega)]
      · rw [if_neg hc, if_neg (by omega)]

def MoveOut (lo : Nat) (n : Nat) (l : List Int) (x y z : Int) (v : Value) (w : World) : Prop :=
  if 0 ≤ x ∧ 0 ≤ y ∧ 0 ≤ z ∧ x + z ≤ n ∧ y + z ≤ n then ∃ A c, v = .tuple #[.slice A n c, .int .i64 0] ∧ Own w lo 3 1 encI A n c (moved l x.toNat y.toNat z.toNat) else v = .tuple #[.slice none 0 0, .int .i64 1]

set_option maxHeartbeats 4000000 in
theorem Move_ans (A : Option Addr) (n c : Nat) (l : List Int) (x y z : Int) (w : World) (hl : Sl w 1 encI A n l) (hn : n * 8 ≤ 140737488355328) (hc : n ≤ c) :
    Ans Try.prog 31 [.slice A n c, .int .i64 x, .int .i64 y, .int .i64 z] w (MoveOut w.heap.size n l x y z) := by
  refine ans_of Try.func31 rfl Try.ntmps31 rfl ?_
  have hw := Ext.refl w
  have hn' : n ≤ 2305843009213693952 := by omega
  by_cases hx : 0 ≤ x ∧ 0 ≤ y ∧ 0 ≤ z ∧ x + z ≤ n ∧ y + z ≤ n
  · obtain ⟨h1, h2, h3, h4, h5⟩ := id hx
    obtain ⟨t, rfl⟩ := Int.eq_ofNat_of_zero_le h1
    obtain ⟨f, rfl⟩ := Int.eq_ofNat_of_zero_le h2
    obtain ⟨k, rfl⟩ := Int.eq_ofNat_of_zero_le h3
    have hll := hl.len
    repeat' (first
      | (show CW _ _ _ _ _ _; first | refine CW.seq ?_ | refine CW.region ?_ | refine CW.block ?_ | refine CW.condtr rfl (by with_reducible rfl) ?_ | refine CW.condfr rfl (by with_reducible rfl) ?_ | refine CW.condd_t rfl (by omega) ?_ | refine CW.condd_f rfl (by omega) ?_ | refine CW.condn_t rfl (by omega) ?_ | refine CW.condn_f rfl (by omega) ?_ | refine CW.condd rfl (fun h => ?_) (fun h => ?_) | refine CW.condn rfl (fun h => ?_) (fun h => ?_) | refine CW.condt rfl ?_ | refine CW.condf rfl ?_ | refine CW.cond rfl (fun h => ?_) (fun h => ?_) | refine CW.skip ?_ | refine CW.ret ?_ | refine CW.exit ?_)
      | (show Post _ _ _ _ _; first | refine Post.seq ?_ | refine Post.seq_ret ?_ | refine Post.seq_exit ?_ | refine Post.hit ?_ | refine Post.pass rfl ?_ | refine Post.blk ?_ | refine Post.blk_ret ?_ | refine Post.again_exit ?_ | refine Post.again_ret ?_ | refine Post.np ?_)
      | refine SW.nil ?_
      | (show SW _ _ _ _ (⟨_, _, _, _, _, some _⟩ :: _) _ _; first | refine SW.want_t rfl rfl (by with_reducible rfl) ?_ | refine SW.want_f rfl rfl (by with_reducible rfl) ?_ | refine SW.skip_t rfl rfl (by with_reducible rfl) rfl ?_ | refine SW.skip_f rfl rfl (by with_reducible rfl) rfl ?_ | refine SW.skip_u rfl rfl (by with_reducible rfl) rfl ?_ | refine SW.splitd_t rfl rfl rfl (by omega) ?_ | refine SW.splitd_f rfl rfl rfl (by omega) ?_ | refine SW.splitn_t rfl rfl rfl (by omega) ?_ | refine SW.splitn_f rfl rfl rfl (by omega) ?_ | refine SW.splitd rfl rfl rfl (fun h => ?_) (fun h => ?_) | refine SW.splitn rfl rfl rfl (fun h => ?_) (fun h => ?_) | refine SW.want rfl rfl ?_ | refine SW.skip rfl rfl rfl rfl ?_ | refine SW.skipu rfl rfl rfl ?_ | refine SW.split rfl rfl rfl (fun h => ?_) (fun h => ?_))
      | refine SW.pure rfl rfl ?_
      | (show SW _ _ _ _ (⟨_, Op.fieldAddr _ _ _, _, _, _, none⟩ :: _) _ _; refine SW.st (st_field rfl) rfl ?_)
      | (show SW _ _ _ _ (⟨_, Op.nilCheck _, _, _, _, none⟩ :: _) _ _; refine SW.st (st_nilCheck rfl) rfl ?_)
      | (show SW _ _ _ _ (⟨_, Op.build _ _, _, _, _, none⟩ :: _) _ _; refine SW.st (st_build rfl rfl) rfl ?_)
      | (show SW _ _ _ _ (⟨_, Op.binOp _ _ _ _ _, _, _, _, none⟩ :: _) _ _; first | refine SW.st (st_add rfl rfl (by omega) (by omega)) rfl ?_ | refine SW.st (st_sub rfl rfl (by omega) (by omega)) rfl ?_ | refine SW.st (st_mul rfl rfl (by omega) (by omega)) rfl ?_ | refine SW.st (st_quo rfl rfl (by omega) (by omega) (by omega)) rfl ?_ | refine SW.st (st_rem rfl rfl (by omega)) rfl ?_)
      | (show SW _ _ _ _ (⟨_, Op.indexAddr _ _ _, _, _, _, none⟩ :: _) _ _; refine SW.st (st_indexN rfl rfl (by assumption) (by omega)) rfl ?_)
      | (show SW _ _ _ _ (⟨_, Op.call ⟨.builtin .len, _, _⟩, _, _, _, none⟩ :: _) _ _; refine SW.st (st_len rfl) rfl ?_)
      | (show SW _ _ _ _ (⟨_, Op.call ⟨.builtin .cap, _, _⟩, _, _, _, none⟩ :: _) _ _; refine SW.st (st_cap rfl) rfl ?_)
      | (show SW _ _ _ _ (⟨_, Op.call ⟨.value (.func _), _, _⟩, _, _, _, none⟩ :: _) _ _; (refine SW.call rfl rfl (in_ans _ _ _ _ _ _ hn') ?_; intro v w1 hw1 hv; subst hv; replace hw := Ext.trans hw hw1; clear hw1)))
    all_goals first | (exfalso; omega) | skip
    refine SW.call rfl rfl (CloneInt_ans _ _ _ _ _ (hl.ext hw) hn) fun v w1 hw1 hv => ?_
    obtain ⟨A1, c1, rfl, hO⟩ := hv
    replace hO := hO.low hw.size
    replace hw := Ext.trans hw hw1
    repeat' (first
      | (show CW _ _ _ _ _ _; first | refine CW.seq ?_ | refine CW.region ?_ | refine CW.block ?_ | refine CW.condtr rfl (by with_reducible rfl) ?_ | refine CW.condfr rfl (by with_reducible rfl) ?_ | refine CW.condd_t rfl (by omega) ?_ | refine CW.condd_f rfl (by omega) ?_ | refine CW.condn_t rfl (by omega) ?_ | refine CW.condn_f rfl (by omega) ?_ | refine CW.condd rfl (fun h => ?_) (fun h => ?_) | refine CW.condn rfl (fun h => ?_) (fun h => ?_) | refine CW.condt rfl ?_ | refine CW.condf rfl ?_ | refine CW.cond rfl (fun h => ?_) (fun h => ?_) | refine CW.skip ?_ | refine CW.ret ?_ | refine CW.exit ?_)
      | (show Post _ _ _ _ _; first | refine Post.seq ?_ | refine Post.seq_ret ?_ | refine Post.seq_exit ?_ | refine Post.hit ?_ | refine Post.pass rfl ?_ | refine Post.blk ?_ | refine Post.blk_ret ?_ | refine Post.again_exit ?_ | refine Post.again_ret ?_ | refine Post.np ?_)
      | refine SW.nil ?_
      | (show SW _ _ _ _ (⟨_, _, _, _, _, some _⟩ :: _) _ _; first | refine SW.want_t rfl rfl (by with_reducible rfl) ?_ | refine SW.want_f rfl rfl (by with_reducible rfl) ?_ | refine SW.skip_t rfl rfl (by with_reducible rfl) rfl ?_ | refine SW.skip_f rfl rfl (by with_reducible rfl) rfl ?_ | refine SW.skip_u rfl rfl (by with_reducible rfl) rfl ?_ | refine SW.splitd_t rfl rfl rfl (by omega) ?_ | refine SW.splitd_f rfl rfl rfl (by omega) ?_ | refine SW.splitn_t rfl rfl rfl (by omega) ?_ | refine SW.splitn_f rfl rfl rfl (by omega) ?_ | refine SW.splitd rfl rfl rfl (fun h => ?_) (fun h => ?_) | refine SW.splitn rfl rfl rfl (fun h => ?_) (fun h => ?_) | refine SW.want rfl rfl ?_ | refine SW.skip rfl rfl rfl rfl ?_ | refine SW.skipu rfl rfl rfl ?_ | refine SW.split rfl rfl rfl (fun h => ?_) (fun h => ?_))
      | refine SW.pure rfl rfl ?_
      | (show SW _ _ _ _ (⟨_, Op.fieldAddr _ _ _, _, _, _, none⟩ :: _) _ _; refine SW.st (st_field rfl) rfl ?_)
      | (show SW _ _ _ _ (⟨_, Op.nilCheck _, _, _, _, none⟩ :: _) _ _; refine SW.st (st_nilCheck rfl) rfl ?_)
      | (show SW _ _ _ _ (⟨_, Op.build _ _, _, _, _, none⟩ :: _) _ _; refine SW.st (st_build rfl rfl) rfl ?_)
      | (show SW _ _ _ _ (⟨_, Op.binOp _ _ _ _ _, _, _, _, none⟩ :: _) _ _; first | refine SW.st (st_add rfl rfl (by omega) (by omega)) rfl ?_ | refine SW.st (st_sub rfl rfl (by omega) (by omega)) rfl ?_ | refine SW.st (st_mul rfl rfl (by omega) (by omega)) rfl ?_ | refine SW.st (st_quo rfl rfl (by omega) (by omega) (by omega)) rfl ?_ | refine SW.st (st_rem rfl rfl (by omega)) rfl ?_)
      | (show SW _ _ _ _ (⟨_, Op.indexAddr _ _ _, _, _, _, none⟩ :: _) _ _; refine SW.st (st_indexN rfl rfl (by assumption) (by omega)) rfl ?_)
      | (show SW _ _ _ _ (⟨_, Op.call ⟨.builtin .len, _, _⟩, _, _, _, none⟩ :: _) _ _; refine SW.st (st_len rfl) rfl ?_)
      | (show SW _ _ _ _ (⟨_, Op.call ⟨.builtin .cap, _, _⟩, _, _, _, none⟩ :: _) _ _; refine SW.st (st_cap rfl) rfl ?_))
    have hle := hO.le
    have hA1 := hO.sl.base
    have hA := hl.base
    obtain ⟨K, hK⟩ : ∃ K : Env → World → Prop, K = fun L' w' => subEnv L' [(10, .slice A1 n c1)] ∧ Ext w w' ∧ Own w' w.heap.size 3 1 encI A1 n c1 (moved l t f k) := ⟨_, rfl⟩
    refine CW.cutq K ?_ ?_
    · by_cases hn0 : c1 = 0
      · have h0 : n = 0 := by omega
        subst hn0 h0
        obtain rfl : t = 0 := by omega
        obtain rfl : f = 0 := by omega
        obtain rfl : k = 0 := by omega
        have hl0 : l = [] := List.eq_nil_of_length_eq_zero hll
        subst hl0
        refine CW.any 12 mixed (rb_tail (by kernel_rfl)) rfl fun w1 hw1 hRB => ?_
        replace hw := Ext.trans hw hw1; replace hO := hO.ext hw1; clear hw1
        refine SA.take 0 hRB rfl (by kernel_rfl) (by kernel_rfl) rfl ?_
        repeat (first
          | (show SW _ _ _ _ (⟨_, _, _, _, _, some _⟩ :: _) _ _; first | refine SW.want_t rfl rfl (by with_reducible rfl) ?_ | refine SW.want_f rfl rfl (by with_reducible rfl) ?_ | refine SW.skip_t rfl rfl (by with_reducible rfl) rfl ?_ | refine SW.skip_f rfl rfl (by with_reducible rfl) rfl ?_ | refine SW.skip_u rfl rfl (by with_reducible rfl) rfl ?_ | refine SW.splitd_t rfl rfl rfl (by omega) ?_ | refine SW.splitd_f rfl rfl rfl (by omega) ?_ | refine SW.splitn_t rfl rfl rfl (by omega) ?_ | refine SW.splitn_f rfl rfl rfl (by omega) ?_ | refine SW.splitd rfl rfl rfl (fun h => ?_) (fun h => ?_) | refine SW.splitn rfl rfl rfl (fun h => ?_) (fun h => ?_) | refine SW.want rfl rfl ?_ | refine SW.skip rfl rfl rfl rfl ?_ | refine SW.skipu rfl rfl rfl ?_ | refine SW.split rfl rfl rfl (fun h => ?_) (fun h => ?_))
          | refine SW.pure rfl rfl ?_
          | (show SW _ _ _ _ (⟨_, Op.fieldAddr _ _ _, _, _, _, none⟩ :: _) _ _; refine SW.st (st_field rfl) rfl ?_)
          | (show SW _ _ _ _ (⟨_, Op.nilCheck _, _, _, _, none⟩ :: _) _ _; refine SW.st (st_nilCheck rfl) rfl ?_)
          | (show SW _ _ _ _ (⟨_, Op.build _ _, _, _, _, none⟩ :: _) _ _; refine SW.st (st_build rfl rfl) rfl ?_)
          | (show SW _ _ _ _ (⟨_, Op.binOp _ _ _ _ _, _, _, _, none⟩ :: _) _ _; first | refine SW.st (st_add rfl rfl (by omega) (by omega)) rfl ?_ | refine SW.st (st_sub rfl rfl (by omega) (by omega)) rfl ?_ | refine SW.st (st_mul rfl rfl (by omega) (by omega)) rfl ?_ | refine SW.st (st_quo rfl rfl (by omega) (by omega) (by omega)) rfl ?_ | refine SW.st (st_rem rfl rfl (by omega)) rfl ?_)
          | (show SW _ _ _ _ (⟨_, Op.indexAddr _ _ _, _, _, _, none⟩ :: _) _ _; refine SW.st (st_indexN rfl rfl (by assumption) (by omega)) rfl ?_)
          | (show SW _ _ _ _ (⟨_, Op.call ⟨.builtin .len, _, _⟩, _, _, _, none⟩ :: _) _ _; refine SW.st (st_len rfl) rfl ?_)
          | (show SW _ _ _ _ (⟨_, Op.call ⟨.builtin .cap, _, _⟩, _, _, _, none⟩ :: _) _ _; refine SW.st (st_cap rfl) rfl ?_)
          | (refine SW.st (st_sliceLH (i := 0) (j := 0) rfl rfl rfl (by omega) (by omega)) rfl ?_))
        refine SW.tknil ?_
        refine SA.take 1 hRB rfl (by kernel_rfl) (by kernel_rfl) rfl ?_
        repeat (first
          | (show SW _ _ _ _ (⟨_, _, _, _, _, some _⟩ :: _) _ _; first | refine SW.want_t rfl rfl (by with_reducible rfl) ?_ | refine SW.want_f rfl rfl (by with_reducible rfl) ?_ | refine SW.skip_t rfl rfl (by with_reducible rfl) rfl ?_ | refine SW.skip_f rfl rfl (by with_reducible rfl) rfl ?_ | refine SW.skip_u rfl rfl (by with_reducible rfl) rfl ?_ | refine SW.splitd_t rfl rfl rfl (by omega) ?_ | refine SW.splitd_f rfl rfl rfl (by omega) ?_ | refine SW.splitn_t rfl rfl rfl (by omega) ?_ | refine SW.splitn_f rfl rfl rfl (by omega) ?_ | refine SW.splitd rfl rfl rfl (fun h => ?_) (fun h => ?_) | refine SW.splitn rfl rfl rfl (fun h => ?_) (fun h => ?_) | refine SW.want rfl rfl ?_ | refine SW.skip rfl rfl rfl rfl ?_ | refine SW.skipu rfl rfl rfl ?_ | refine SW.split rfl rfl rfl (fun h => ?_) (fun h => ?_))
          | refine SW.pure rfl rfl ?_
          | (show SW _ _ _ _ (⟨_, Op.fieldAddr _ _ _, _, _, _, none⟩ :: _) _ _; refine SW.st (st_field rfl) rfl ?_)
          | (show SW _ _ _ _ (⟨_, Op.nilCheck _, _, _, _, none⟩ :: _) _ _; refine SW.st (st_nilCheck rfl) rfl ?_)
          | (show SW _ _ _ _ (⟨_, Op.build _ _, _, _, _, none⟩ :: _) _ _; refine SW.st (st_build rfl rfl) rfl ?_)
          | (show SW _ _ _ _ (⟨_, Op.binOp _ _ _ _ _, _, _, _, none⟩ :: _) _ _; first | refine SW.st (st_add rfl rfl (by omega) (by omega)) rfl ?_ | refine SW.st (st_sub rfl rfl (by omega) (by omega)) rfl ?_ | refine SW.st (st_mul rfl rfl (by omega) (by omega)) rfl ?_ | refine SW.st (st_quo rfl rfl (by omega) (by omega) (by omega)) rfl ?_ | refine SW.st (st_rem rfl rfl (by omega)) rfl ?_)
          | (show SW _ _ _ _ (⟨_, Op.indexAddr _ _ _, _, _, _, none⟩ :: _) _ _; refine SW.st (st_indexN rfl rfl (by assumption) (by omega)) rfl ?_)
          | (show SW _ _ _ _ (⟨_, Op.call ⟨.builtin .len, _, _⟩, _, _, _, none⟩ :: _) _ _; refine SW.st (st_len rfl) rfl ?_)
          | (show SW _ _ _ _ (⟨_, Op.call ⟨.builtin .cap, _, _⟩, _, _, _, none⟩ :: _) _ _; refine SW.st (st_cap rfl) rfl ?_)
          | (refine SW.st (st_sliceLH (i := 0) (j := 0) rfl rfl rfl (by omega) (by omega)) rfl ?_))
        refine SW.tknil ?_
        refine SA.take 2 hRB rfl (by kernel_rfl) (by kernel_rfl) rfl ?_
        repeat (first
          | (show SW _ _ _ _ (⟨_, _, _, _, _, some _⟩ :: _) _ _; first | refine SW.want_t rfl rfl (by with_reducible rfl) ?_ | refine SW.want_f rfl rfl (by with_reducible rfl) ?_ | refine SW.skip_t rfl rfl (by with_reducible rfl) rfl ?_ | refine SW.skip_f rfl rfl (by with_reducible rfl) rfl ?_ | refine SW.skip_u rfl rfl (by with_reducible rfl) rfl ?_ | refine SW.splitd_t rfl rfl rfl (by omega) ?_ | refine SW.splitd_f rfl rfl rfl (by omega) ?_ | refine SW.splitn_t rfl rfl rfl (by omega) ?_ | refine SW.splitn_f rfl rfl rfl (by omega) ?_ | refine SW.splitd rfl rfl rfl (fun h => ?_) (fun h => ?_) | refine SW.splitn rfl rfl rfl (fun h => ?_) (fun h => ?_) | refine SW.want rfl rfl ?_ | refine SW.skip rfl rfl rfl rfl ?_ | refine SW.skipu rfl rfl rfl ?_ | refine SW.split rfl rfl rfl (fun h => ?_) (fun h => ?_))
          | refine SW.pure rfl rfl ?_
          | (show SW _ _ _ _ (⟨_, Op.fieldAddr _ _ _, _, _, _, none⟩ :: _) _ _; refine SW.st (st_field rfl) rfl ?_)
          | (show SW _ _ _ _ (⟨_, Op.nilCheck _, _, _, _, none⟩ :: _) _ _; refine SW.st (st_nilCheck rfl) rfl ?_)
          | (show SW _ _ _ _ (⟨_, Op.build _ _, _, _, _, none⟩ :: _) _ _; refine SW.st (st_build rfl rfl) rfl ?_)
          | (show SW _ _ _ _ (⟨_, Op.binOp _ _ _ _ _, _, _, _, none⟩ :: _) _ _; first | refine SW.st (st_add rfl rfl (by omega) (by omega)) rfl ?_ | refine SW.st (st_sub rfl rfl (by omega) (by omega)) rfl ?_ | refine SW.st (st_mul rfl rfl (by omega) (by omega)) rfl ?_ | refine SW.st (st_quo rfl rfl (by omega) (by omega) (by omega)) rfl ?_ | refine SW.st (st_rem rfl rfl (by omega)) rfl ?_)
          | (show SW _ _ _ _ (⟨_, Op.indexAddr _ _ _, _, _, _, none⟩ :: _) _ _; refine SW.st (st_indexN rfl rfl (by assumption) (by omega)) rfl ?_)
          | (show SW _ _ _ _ (⟨_, Op.call ⟨.builtin .len, _, _⟩, _, _, _, none⟩ :: _) _ _; refine SW.st (st_len rfl) rfl ?_)
          | (show SW _ _ _ _ (⟨_, Op.call ⟨.builtin .cap, _, _⟩, _, _, _, none⟩ :: _) _ _; refine SW.st (st_cap rfl) rfl ?_)
          | (refine SW.st (st_sliceLH (i := 0) (j := 0) rfl rfl rfl (by omega) (by omega)) rfl ?_))
        refine SW.tknil ?_
        refine SA.take 3 hRB rfl (by kernel_rfl) (by kernel_rfl) rfl ?_
        repeat (first
          | (show SW _ _ _ _ (⟨_, _, _, _, _, some _⟩ :: _) _ _; first | refine SW.want_t rfl rfl (by with_reducible rfl) ?_ | refine SW.want_f rfl rfl (by with_reducible rfl) ?_ | refine SW.skip_t rfl rfl (by with_reducible rfl) rfl ?_ | refine SW.skip_f rfl rfl (by with_reducible rfl) rfl ?_ | refine SW.skip_u rfl rfl (by with_reducible rfl) rfl ?_ | refine SW.splitd_t rfl rfl rfl (by omega) ?_ | refine SW.splitd_f rfl rfl rfl (by omega) ?_ | refine SW.splitn_t rfl rfl rfl (by omega) ?_ | refine SW.splitn_f rfl rfl rfl (by omega) ?_ | refine SW.splitd rfl rfl rfl (fun h => ?_) (fun h => ?_) | refine SW.splitn rfl rfl rfl (fun h => ?_) (fun h => ?_) | refine SW.want rfl rfl ?_ | refine SW.skip rfl rfl rfl rfl ?_ | refine SW.skipu rfl rfl rfl ?_ | refine SW.split rfl rfl rfl (fun h => ?_) (fun h => ?_))
          | refine SW.pure rfl rfl ?_
          | (show SW _ _ _ _ (⟨_, Op.fieldAddr _ _ _, _, _, _, none⟩ :: _) _ _; refine SW.st (st_field rfl) rfl ?_)
          | (show SW _ _ _ _ (⟨_, Op.nilCheck _, _, _, _, none⟩ :: _) _ _; refine SW.st (st_nilCheck rfl) rfl ?_)
          | (show SW _ _ _ _ (⟨_, Op.build _ _, _, _, _, none⟩ :: _) _ _; refine SW.st (st_build rfl rfl) rfl ?_)
          | (show SW _ _ _ _ (⟨_, Op.binOp _ _ _ _ _, _, _, _, none⟩ :: _) _ _; first | refine SW.st (st_add rfl rfl (by omega) (by omega)) rfl ?_ | refine SW.st (st_sub rfl rfl (by omega) (by omega)) rfl ?_ | refine SW.st (st_mul rfl rfl (by omega) (by omega)) rfl ?_ | refine SW.st (st_quo rfl rfl (by omega) (by omega) (by omega)) rfl ?_ | refine SW.st (st_rem rfl rfl (by omega)) rfl ?_)
          | (show SW _ _ _ _ (⟨_, Op.indexAddr _ _ _, _, _, _, none⟩ :: _) _ _; refine SW.st (st_indexN rfl rfl (by assumption) (by omega)) rfl ?_)
          | (show SW _ _ _ _ (⟨_, Op.call ⟨.builtin .len, _, _⟩, _, _, _, none⟩ :: _) _ _; refine SW.st (st_len rfl) rfl ?_)
          | (show SW _ _ _ _ (⟨_, Op.call ⟨.builtin .cap, _, _⟩, _, _, _, none⟩ :: _) _ _; refine SW.st (st_cap rfl) rfl ?_)
          | (refine SW.st (st_sliceLH (i := 0) (j := 0) rfl rfl rfl (by omega) (by omega)) rfl ?_))
        refine SW.tknil ?_
        refine SA.take 4 hRB rfl (by kernel_rfl) (by kernel_rfl) rfl ?_
        repeat (first
          | (show SW _ _ _ _ (⟨_, _, _, _, _, some _⟩ :: _) _ _; first | refine SW.want_t rfl rfl (by with_reducible rfl) ?_ | refine SW.want_f rfl rfl (by with_reducible rfl) ?_ | refine SW.skip_t rfl rfl (by with_reducible rfl) rfl ?_ | refine SW.skip_f rfl rfl (by with_reducible rfl) rfl ?_ | refine SW.skip_u rfl rfl (by with_reducible rfl) rfl ?_ | refine SW.splitd_t rfl rfl rfl (by omega) ?_ | refine SW.splitd_f rfl rfl rfl (by omega) ?_ | refine SW.splitn_t rfl rfl rfl (by omega) ?_ | refine SW.splitn_f rfl rfl rfl (by omega) ?_ | refine SW.splitd rfl rfl rfl (fun h => ?_) (fun h => ?_) | refine SW.splitn rfl rfl rfl (fun h => ?_) (fun h => ?_) | refine SW.want rfl rfl ?_ | refine SW.skip rfl rfl rfl rfl ?_ | refine SW.skipu rfl rfl rfl ?_ | refine SW.split rfl rfl rfl (fun h => ?_) (fun h => ?_))
          | refine SW.pure rfl rfl ?_
          | (show SW _ _ _ _ (⟨_, Op.fieldAddr _ _ _, _, _, _, none⟩ :: _) _ _; refine SW.st (st_field rfl) rfl ?_)
          | (show SW _ _ _ _ (⟨_, Op.nilCheck _, _, _, _, none⟩ :: _) _ _; refine SW.st (st_nilCheck rfl) rfl ?_)
          | (show SW _ _ _ _ (⟨_, Op.build _ _, _, _, _, none⟩ :: _) _ _; refine SW.st (st_build rfl rfl) rfl ?_)
          | (show SW _ _ _ _ (⟨_, Op.binOp _ _ _ _ _, _, _, _, none⟩ :: _) _ _; first | refine SW.st (st_add rfl rfl (by omega) (by omega)) rfl ?_ | refine SW.st (st_sub rfl rfl (by omega) (by omega)) rfl ?_ | refine SW.st (st_mul rfl rfl (by omega) (by omega)) rfl ?_ | refine SW.st (st_quo rfl rfl (by omega) (by omega) (by omega)) rfl ?_ | refine SW.st (st_rem rfl rfl (by omega)) rfl ?_)
          | (show SW _ _ _ _ (⟨_, Op.indexAddr _ _ _, _, _, _, none⟩ :: _) _ _; refine SW.st (st_indexN rfl rfl (by assumption) (by omega)) rfl ?_)
          | (show SW _ _ _ _ (⟨_, Op.call ⟨.builtin .len, _, _⟩, _, _, _, none⟩ :: _) _ _; refine SW.st (st_len rfl) rfl ?_)
          | (show SW _ _ _ _ (⟨_, Op.call ⟨.builtin .cap, _, _⟩, _, _, _, none⟩ :: _) _ _; refine SW.st (st_cap rfl) rfl ?_)
          | (refine SW.st (st_sliceLH (i := 0) (j := 0) rfl rfl rfl (by omega) (by omega)) rfl ?_))
        refine SW.tknil ?_
        refine SA.take 5 hRB rfl (by kernel_rfl) (by kernel_rfl) rfl ?_
        repeat (first
          | (show SW _ _ _ _ (⟨_, _, _, _, _, some _⟩ :: _) _ _; first | refine SW.want_t rfl rfl (by with_reducible rfl) ?_ | refine SW.want_f rfl rfl (by with_reducible rfl) ?_ | refine SW.skip_t rfl rfl (by with_reducible rfl) rfl ?_ | refine SW.skip_f rfl rfl (by with_reducible rfl) rfl ?_ | refine SW.skip_u rfl rfl (by with_reducible rfl) rfl ?_ | refine SW.splitd_t rfl rfl rfl (by omega) ?_ | refine SW.splitd_f rfl rfl rfl (by omega) ?_ | refine SW.splitn_t rfl rfl rfl (by omega) ?_ | refine SW.splitn_f rfl rfl rfl (by omega) ?_ | refine SW.splitd rfl rfl rfl (fun h => ?_) (fun h => ?_) | refine SW.splitn rfl rfl rfl (fun h => ?_) (fun h => ?_) | refine SW.want rfl rfl ?_ | refine SW.skip rfl rfl rfl rfl ?_ | refine SW.skipu rfl rfl rfl ?_ | refine SW.split rfl rfl rfl (fun h => ?_) (fun h => ?_))
          | refine SW.pure rfl rfl ?_
          | (show SW _ _ _ _ (⟨_, Op.fieldAddr _ _ _, _, _, _, none⟩ :: _) _ _; refine SW.st (st_field rfl) rfl ?_)
          | (show SW _ _ _ _ (⟨_, Op.nilCheck _, _, _, _, none⟩ :: _) _ _; refine SW.st (st_nilCheck rfl) rfl ?_)
          | (show SW _ _ _ _ (⟨_, Op.build _ _, _, _, _, none⟩ :: _) _ _; refine SW.st (st_build rfl rfl) rfl ?_)
          | (show SW _ _ _ _ (⟨_, Op.binOp _ _ _ _ _, _, _, _, none⟩ :: _) _ _; first | refine SW.st (st_add rfl rfl (by omega) (by omega)) rfl ?_ | refine SW.st (st_sub rfl rfl (by omega) (by omega)) rfl ?_ | refine SW.st (st_mul rfl rfl (by omega) (by omega)) rfl ?_ | refine SW.st (st_quo rfl rfl (by omega) (by omega) (by omega)) rfl ?_ | refine SW.st (st_rem rfl rfl (by omega)) rfl ?_)
          | (show SW _ _ _ _ (⟨_, Op.indexAddr _ _ _, _, _, _, none⟩ :: _) _ _; refine SW.st (st_indexN rfl rfl (by assumption) (by omega)) rfl ?_)
          | (show SW _ _ _ _ (⟨_, Op.call ⟨.builtin .len, _, _⟩, _, _, _, none⟩ :: _) _ _; refine SW.st (st_len rfl) rfl ?_)
          | (show SW _ _ _ _ (⟨_, Op.call ⟨.builtin .cap, _, _⟩, _, _, _, none⟩ :: _) _ _; refine SW.st (st_cap rfl) rfl ?_)
          | (refine SW.st (st_sliceLH (i := 0) (j := 0) rfl rfl rfl (by omega) (by omega)) rfl ?_))
        refine SW.tknil ?_
        refine SA.take 6 hRB rfl (by kernel_rfl) (by kernel_rfl) rfl ?_
        repeat (first
          | (show SW _ _ _ _ (⟨_, _, _, _, _, some _⟩ :: _) _ _; first | refine SW.want_t rfl rfl (by with_reducible rfl) ?_ | refine SW.want_f rfl rfl (by with_reducible rfl) ?_ | refine SW.skip_t rfl rfl (by with_reducible rfl) rfl ?_ | refine SW.skip_f rfl rfl (by with_reducible rfl) rfl ?_ | refine SW.skip_u rfl rfl (by with_reducible rfl) rfl ?_ | refine SW.splitd_t rfl rfl rfl (by omega) ?_ | refine SW.splitd_f rfl rfl rfl (by omega) ?_ | refine SW.splitn_t rfl rfl rfl (by omega) ?_ | refine SW.splitn_f rfl rfl rfl (by omega) ?_ | refine SW.splitd rfl rfl rfl (fun h => ?_) (fun h => ?_) | refine SW.splitn rfl rfl rfl (fun h => ?_) (fun h => ?_) | refine SW.want rfl rfl ?_ | refine SW.skip rfl rfl rfl rfl ?_ | refine SW.skipu rfl rfl rfl ?_ | refine SW.split rfl rfl rfl (fun h => ?_) (fun h => ?_))
          | refine SW.pure rfl rfl ?_
          | (show SW _ _ _ _ (⟨_, Op.fieldAddr _ _ _, _, _, _, none⟩ :: _) _ _; refine SW.st (st_field rfl) rfl ?_)
          | (show SW _ _ _ _ (⟨_, Op.nilCheck _, _, _, _, none⟩ :: _) _ _; refine SW.st (st_nilCheck rfl) rfl ?_)
          | (show SW _ _ _ _ (⟨_, Op.build _ _, _, _, _, none⟩ :: _) _ _; refine SW.st (st_build rfl rfl) rfl ?_)
          | (show SW _ _ _ _ (⟨_, Op.binOp _ _ _ _ _, _, _, _, none⟩ :: _) _ _; first | refine SW.st (st_add rfl rfl (by omega) (by omega)) rfl ?_ | refine SW.st (st_sub rfl rfl (by omega) (by omega)) rfl ?_ | refine SW.st (st_mul rfl rfl (by omega) (by omega)) rfl ?_ | refine SW.st (st_quo rfl rfl (by omega) (by omega) (by omega)) rfl ?_ | refine SW.st (st_rem rfl rfl (by omega)) rfl ?_)
          | (show SW _ _ _ _ (⟨_, Op.indexAddr _ _ _, _, _, _, none⟩ :: _) _ _; refine SW.st (st_indexN rfl rfl (by assumption) (by omega)) rfl ?_)
          | (show SW _ _ _ _ (⟨_, Op.call ⟨.builtin .len, _, _⟩, _, _, _, none⟩ :: _) _ _; refine SW.st (st_len rfl) rfl ?_)
          | (show SW _ _ _ _ (⟨_, Op.call ⟨.builtin .cap, _, _⟩, _, _, _, none⟩ :: _) _ _; refine SW.st (st_cap rfl) rfl ?_)
          | (refine SW.st (st_sliceLH (i := 0) (j := 0) rfl rfl rfl (by omega) (by omega)) rfl ?_))
        refine SW.tknil ?_
        refine SA.take 7 hRB rfl (by kernel_rfl) (by kernel_rfl) rfl ?_
        repeat (first
          | (show SW _ _ _ _ (⟨_, _, _, _, _, some _⟩ :: _) _ _; first | refine SW.want_t rfl rfl (by with_reducible rfl) ?_ | refine SW.want_f rfl rfl (by with_reducible rfl) ?_ | refine SW.skip_t rfl rfl (by with_reducible rfl) rfl ?_ | refine SW.skip_f rfl rfl (by with_reducible rfl) rfl ?_ | refine SW.skip_u rfl rfl (by with_reducible rfl) rfl ?_ | refine SW.splitd_t rfl rfl rfl (by omega) ?_ | refine SW.splitd_f rfl rfl rfl (by omega) ?_ | refine SW.splitn_t rfl rfl rfl (by omega) ?_ | refine SW.splitn_f rfl rfl rfl (by omega) ?_ | refine SW.splitd rfl rfl rfl (fun h => ?_) (fun h => ?_) | refine SW.splitn rfl rfl rfl (fun h => ?_) (fun h => ?_) | refine SW.want rfl rfl ?_ | refine SW.skip rfl rfl rfl rfl ?_ | refine SW.skipu rfl rfl rfl ?_ | refine SW.split rfl rfl rfl (fun h => ?_) (fun h => ?_))
          | refine SW.pure rfl rfl ?_
          | (show SW _ _ _ _ (⟨_, Op.fieldAddr _ _ _, _, _, _, none⟩ :: _) _ _; refine SW.st (st_field rfl) rfl ?_)
          | (show SW _ _ _ _ (⟨_, Op.nilCheck _, _, _, _, none⟩ :: _) _ _; refine SW.st (st_nilCheck rfl) rfl ?_)
          | (show SW _ _ _ _ (⟨_, Op.build _ _, _, _, _, none⟩ :: _) _ _; refine SW.st (st_build rfl rfl) rfl ?_)
          | (show SW _ _ _ _ (⟨_, Op.binOp _ _ _ _ _, _, _, _, none⟩ :: _) _ _; first | refine SW.st (st_add rfl rfl (by omega) (by omega)) rfl ?_ | refine SW.st (st_sub rfl rfl (by omega) (by omega)) rfl ?_ | refine SW.st (st_mul rfl rfl (by omega) (by omega)) rfl ?_ | refine SW.st (st_quo rfl rfl (by omega) (by omega) (by omega)) rfl ?_ | refine SW.st (st_rem rfl rfl (by omega)) rfl ?_)
          | (show SW _ _ _ _ (⟨_, Op.indexAddr _ _ _, _, _, _, none⟩ :: _) _ _; refine SW.st (st_indexN rfl rfl (by assumption) (by omega)) rfl ?_)
          | (show SW _ _ _ _ (⟨_, Op.call ⟨.builtin .len, _, _⟩, _, _, _, none⟩ :: _) _ _; refine SW.st (st_len rfl) rfl ?_)
          | (show SW _ _ _ _ (⟨_, Op.call ⟨.builtin .cap, _, _⟩, _, _, _, none⟩ :: _) _ _; refine SW.st (st_cap rfl) rfl ?_)
          | (refine SW.st (st_sliceLH (i := 0) (j := 0) rfl rfl rfl (by omega) (by omega)) rfl ?_))
        refine SW.tknil ?_
        refine SA.take 8 hRB rfl (by kernel_rfl) (by kernel_rfl) rfl ?_
        repeat (first
          | (show SW _ _ _ _ (⟨_, _, _, _, _, some _⟩ :: _) _ _; first | refine SW.want_t rfl rfl (by with_reducible rfl) ?_ | refine SW.want_f rfl rfl (by with_reducible rfl) ?_ | refine SW.skip_t rfl rfl (by with_reducible rfl) rfl ?_ | refine SW.skip_f rfl rfl (by with_reducible rfl) rfl ?_ | refine SW.skip_u rfl rfl (by with_reducible rfl) rfl ?_ | refine SW.splitd_t rfl rfl rfl (by omega) ?_ | refine SW.splitd_f rfl rfl rfl (by omega) ?_ | refine SW.splitn_t rfl rfl rfl (by omega) ?_ | refine SW.splitn_f rfl rfl rfl (by omega) ?_ | refine SW.splitd rfl rfl rfl (fun h => ?_) (fun h => ?_) | refine SW.splitn rfl rfl rfl (fun h => ?_) (fun h => ?_) | refine SW.want rfl rfl ?_ | refine SW.skip rfl rfl rfl rfl ?_ | refine SW.skipu rfl rfl rfl ?_ | refine SW.split rfl rfl rfl (fun h => ?_) (fun h => ?_))
          | refine SW.pure rfl rfl ?_
          | (show SW _ _ _ _ (⟨_, Op.fieldAddr _ _ _, _, _, _, none⟩ :: _) _ _; refine SW.st (st_field rfl) rfl ?_)
          | (show SW _ _ _ _ (⟨_, Op.nilCheck _, _, _, _, none⟩ :: _) _ _; refine SW.st (st_nilCheck rfl) rfl ?_)
          | (show SW _ _ _ _ (⟨_, Op.build _ _, _, _, _, none⟩ :: _) _ _; refine SW.st (st_build rfl rfl) rfl ?_)
          | (show SW _ _ _ _ (⟨_, Op.binOp _ _ _ _ _, _, _, _, none⟩ :: _) _ _; first | refine SW.st (st_add rfl rfl (by omega) (by omega)) rfl ?_ | refine SW.st (st_sub rfl rfl (by omega) (by omega)) rfl ?_ | refine SW.st (st_mul rfl rfl (by omega) (by omega)) rfl ?_ | refine SW.st (st_quo rfl rfl (by omega) (by omega) (by omega)) rfl ?_ | refine SW.st (st_rem rfl rfl (by omega)) rfl ?_)
          | (show SW _ _ _ _ (⟨_, Op.indexAddr _ _ _, _, _, _, none⟩ :: _) _ _; refine SW.st (st_indexN rfl rfl (by assumption) (by omega)) rfl ?_)
          | (show SW _ _ _ _ (⟨_, Op.call ⟨.builtin .len, _, _⟩, _, _, _, none⟩ :: _) _ _; refine SW.st (st_len rfl) rfl ?_)
          | (show SW _ _ _ _ (⟨_, Op.call ⟨.builtin .cap, _, _⟩, _, _, _, none⟩ :: _) _ _; refine SW.st (st_cap rfl) rfl ?_)
          | (refine SW.st (st_sliceLH (i := 0) (j := 0) rfl rfl rfl (by omega) (by omega)) rfl ?_))
        refine SW.tknil ?_
        refine SA.take 9 hRB rfl (by kernel_rfl) (by kernel_rfl) rfl ?_
        repeat (first
          | (show SW _ _ _ _ (⟨_, _, _, _, _, some _⟩ :: _) _ _; first | refine SW.want_t rfl rfl (by with_reducible rfl) ?_ | refine SW.want_f rfl rfl (by with_reducible rfl) ?_ | refine SW.skip_t rfl rfl (by with_reducible rfl) rfl ?_ | refine SW.skip_f rfl rfl (by with_reducible rfl) rfl ?_ | refine SW.skip_u rfl rfl (by with_reducible rfl) rfl ?_ | refine SW.splitd_t rfl rfl rfl (by omega) ?_ | refine SW.splitd_f rfl rfl rfl (by omega) ?_ | refine SW.splitn_t rfl rfl rfl (by omega) ?_ | refine SW.splitn_f rfl rfl rfl (by omega) ?_ | refine SW.splitd rfl rfl rfl (fun h => ?_) (fun h => ?_) | refine SW.splitn rfl rfl rfl (fun h => ?_) (fun h => ?_) | refine SW.want rfl rfl ?_ | refine SW.skip rfl rfl rfl rfl ?_ | refine SW.skipu rfl rfl rfl ?_ | refine SW.split rfl rfl rfl (fun h => ?_) (fun h => ?_))
          | refine SW.pure rfl rfl ?_
          | (show SW _ _ _ _ (⟨_, Op.fieldAddr _ _ _, _, _, _, none⟩ :: _) _ _; refine SW.st (st_field rfl) rfl ?_)
          | (show SW _ _ _ _ (⟨_, Op.nilCheck _, _, _, _, none⟩ :: _) _ _; refine SW.st (st_nilCheck rfl) rfl ?_)
          | (show SW _ _ _ _ (⟨_, Op.build _ _, _, _, _, none⟩ :: _) _ _; refine SW.st (st_build rfl rfl) rfl ?_)
          | (show SW _ _ _ _ (⟨_, Op.binOp _ _ _ _ _, _, _, _, none⟩ :: _) _ _; first | refine SW.st (st_add rfl rfl (by omega) (by omega)) rfl ?_ | refine SW.st (st_sub rfl rfl (by omega) (by omega)) rfl ?_ | refine SW.st (st_mul rfl rfl (by omega) (by omega)) rfl ?_ | refine SW.st (st_quo rfl rfl (by omega) (by omega) (by omega)) rfl ?_ | refine SW.st (st_rem rfl rfl (by omega)) rfl ?_)
          | (show SW _ _ _ _ (⟨_, Op.indexAddr _ _ _, _, _, _, none⟩ :: _) _ _; refine SW.st (st_indexN rfl rfl (by assumption) (by omega)) rfl ?_)
          | (show SW _ _ _ _ (⟨_, Op.call ⟨.builtin .len, _, _⟩, _, _, _, none⟩ :: _) _ _; refine SW.st (st_len rfl) rfl ?_)
          | (show SW _ _ _ _ (⟨_, Op.call ⟨.builtin .cap, _, _⟩, _, _, _, none⟩ :: _) _ _; refine SW.st (st_cap rfl) rfl ?_)
          | (refine SW.st (st_sliceLH (i := 0) (j := 0) rfl rfl rfl (by omega) (by omega)) rfl ?_))
        refine SW.tknil ?_
        refine SA.take 10 hRB rfl (by kernel_rfl) (by kernel_rfl) rfl ?_
        repeat (first
          | (show SW _ _ _ _ (⟨_, _, _, _, _, some _⟩ :: _) _ _; first | refine SW.want_t rfl rfl (by with_reducible rfl) ?_ | refine SW.want_f rfl rfl (by with_reducible rfl) ?_ | refine SW.skip_t rfl rfl (by with_reducible rfl) rfl ?_ | refine SW.skip_f rfl rfl (by with_reducible rfl) rfl ?_ | refine SW.skip_u rfl rfl (by with_reducible rfl) rfl ?_ | refine SW.splitd_t rfl rfl rfl (by omega) ?_ | refine SW.splitd_f rfl rfl rfl (by omega) ?_ | refine SW.splitn_t rfl rfl rfl (by omega) ?_ | refine SW.splitn_f rfl rfl rfl (by omega) ?_ | refine SW.splitd rfl rfl rfl (fun h => ?_) (fun h => ?_) | refine SW.splitn rfl rfl rfl (fun h => ?_) (fun h => ?_) | refine SW.want rfl rfl ?_ | refine SW.skip rfl rfl rfl rfl ?_ | refine SW.skipu rfl rfl rfl ?_ | refine SW.split rfl rfl rfl (fun h => ?_) (fun h => ?_))
          | refine SW.pure rfl rfl ?_
          | (show SW _ _ _ _ (⟨_, Op.fieldAddr _ _ _, _, _, _, none⟩ :: _) _ _; refine SW.st (st_field rfl) rfl ?_)
          | (show SW _ _ _ _ (⟨_, Op.nilCheck _, _, _, _, none⟩ :: _) _ _; refine SW.st (st_nilCheck rfl) rfl ?_)
          | (show SW _ _ _ _ (⟨_, Op.build _ _, _, _, _, none⟩ :: _) _ _; refine SW.st (st_build rfl rfl) rfl ?_)
          | (show SW _ _ _ _ (⟨_, Op.binOp _ _ _ _ _, _, _, _, none⟩ :: _) _ _; first | refine SW.st (st_add rfl rfl (by omega) (by omega)) rfl ?_ | refine SW.st (st_sub rfl rfl (by omega) (by omega)) rfl ?_ | refine SW.st (st_mul rfl rfl (by omega) (by omega)) rfl ?_ | refine SW.st (st_quo rfl rfl (by omega) (by omega) (by omega)) rfl ?_ | refine SW.st (st_rem rfl rfl (by omega)) rfl ?_)
          | (show SW _ _ _ _ (⟨_, Op.indexAddr _ _ _, _, _, _, none⟩ :: _) _ _; refine SW.st (st_indexN rfl rfl (by assumption) (by omega)) rfl ?_)
          | (show SW _ _ _ _ (⟨_, Op.call ⟨.builtin .len, _, _⟩, _, _, _, none⟩ :: _) _ _; refine SW.st (st_len rfl) rfl ?_)
          | (show SW _ _ _ _ (⟨_, Op.call ⟨.builtin .cap, _, _⟩, _, _, _, none⟩ :: _) _ _; refine SW.st (st_cap rfl) rfl ?_)
          | (refine SW.st (st_sliceLH (i := 0) (j := 0) rfl rfl rfl (by omega) (by omega)) rfl ?_))
        refine SW.tknil ?_
        refine SA.take 11 hRB rfl (by kernel_rfl) (by kernel_rfl) rfl ?_
        repeat (first
          | (show SW _ _ _ _ (⟨_, _, _, _, _, some _⟩ :: _) _ _; first | refine SW.want_t rfl rfl (by with_reducible rfl) ?_ | refine SW.want_f rfl rfl (by with_reducible rfl) ?_ | refine SW.skip_t rfl rfl (by with_reducible rfl) rfl ?_ | refine SW.skip_f rfl rfl (by with_reducible rfl) rfl ?_ | refine SW.skip_u rfl rfl (by with_reducible rfl) rfl ?_ | refine SW.splitd_t rfl rfl rfl (by omega) ?_ | refine SW.splitd_f rfl rfl rfl (by omega) ?_ | refine SW.splitn_t rfl rfl rfl (by omega) ?_ | refine SW.splitn_f rfl rfl rfl (by omega) ?_ | refine SW.splitd rfl rfl rfl (fun h => ?_) (fun h => ?_) | refine SW.splitn rfl rfl rfl (fun h => ?_) (fun h => ?_) | refine SW.want rfl rfl ?_ | refine SW.skip rfl rfl rfl rfl ?_ | refine SW.skipu rfl rfl rfl ?_ | refine SW.split rfl rfl rfl (fun h => ?_) (fun h => ?_))
          | refine SW.pure rfl rfl ?_
          | (show SW _ _ _ _ (⟨_, Op.fieldAddr _ _ _, _, _, _, none⟩ :: _) _ _; refine SW.st (st_field rfl) rfl ?_)
          | (show SW _ _ _ _ (⟨_, Op.nilCheck _, _, _, _, none⟩ :: _) _ _; refine SW.st (st_nilCheck rfl) rfl ?_)
          | (show SW _ _ _ _ (⟨_, Op.build _ _, _, _, _, none⟩ :: _) _ _; refine SW.st (st_build rfl rfl) rfl ?_)
          | (show SW _ _ _ _ (⟨_, Op.binOp _ _ _ _ _, _, _, _, none⟩ :: _) _ _; first | refine SW.st (st_add rfl rfl (by omega) (by omega)) rfl ?_ | refine SW.st (st_sub rfl rfl (by omega) (by omega)) rfl ?_ | refine SW.st (st_mul rfl rfl (by omega) (by omega)) rfl ?_ | refine SW.st (st_quo rfl rfl (by omega) (by omega) (by omega)) rfl ?_ | refine SW.st (st_rem rfl rfl (by omega)) rfl ?_)
          | (show SW _ _ _ _ (⟨_, Op.indexAddr _ _ _, _, _, _, none⟩ :: _) _ _; refine SW.st (st_indexN rfl rfl (by assumption) (by omega)) rfl ?_)
          | (show SW _ _ _ _ (⟨_, Op.call ⟨.builtin .len, _, _⟩, _, _, _, none⟩ :: _) _ _; refine SW.st (st_len rfl) rfl ?_)
          | (show SW _ _ _ _ (⟨_, Op.call ⟨.builtin .cap, _, _⟩, _, _, _, none⟩ :: _) _ _; refine SW.st (st_cap rfl) rfl ?_)
          | (refine SW.st (st_sliceLH (i := 0) (j := 0) rfl rfl rfl (by omega) (by omega)) rfl ?_))
        refine SW.tknil ?_
        refine SA.done (by kernel_rfl) ?_
        refine SW.copy0 rfl rfl rfl (by omega) ?_
        repeat' (first
          | (show CW _ _ _ _ _ _; first | refine CW.seq ?_ | refine CW.region ?_ | refine CW.block ?_ | refine CW.condtr rfl (by with_reducible rfl) ?_ | refine CW.condfr rfl (by with_reducible rfl) ?_ | refine CW.condd_t rfl (by omega) ?_ | refine CW.condd_f rfl (by omega) ?_ | refine CW.condn_t rfl (by omega) ?_ | refine CW.condn_f rfl (by omega) ?_ | refine CW.condd rfl (fun h => ?_) (fun h => ?_) | refine CW.condn rfl (fun h => ?_) (fun h => ?_) | refine CW.condt rfl ?_ | refine CW.condf rfl ?_ | refine CW.cond rfl (fun h => ?_) (fun h => ?_) | refine CW.skip ?_ | refine CW.ret ?_ | refine CW.exit ?_)
          | (show Post _ _ _ _ _; first | refine Post.seq ?_ | refine Post.seq_ret ?_ | refine Post.seq_exit ?_ | refine Post.hit ?_ | refine Post.pass rfl ?_ | refine Post.blk ?_ | refine Post.blk_ret ?_ | refine Post.again_exit ?_ | refine Post.again_ret ?_ | refine Post.np ?_)
          | refine SW.nil ?_
          | (show SW _ _ _ _ (⟨_, _, _, _, _, some _⟩ :: _) _ _; first | refine SW.want_t rfl rfl (by with_reducible rfl) ?_ | refine SW.want_f rfl rfl (by with_reducible rfl) ?_ | refine SW.skip_t rfl rfl (by with_reducible rfl) rfl ?_ | refine SW.skip_f rfl rfl (by with_reducible rfl) rfl ?_ | refine SW.skip_u rfl rfl (by with_reducible rfl) rfl ?_ | refine SW.splitd_t rfl rfl rfl (by omega) ?_ | refine SW.splitd_f rfl rfl rfl (by omega) ?_ | refine SW.splitn_t rfl rfl rfl (by omega) ?_ | refine SW.splitn_f rfl rfl rfl (by omega) ?_ | refine SW.splitd rfl rfl rfl (fun h => ?_) (fun h => ?_) | refine SW.splitn rfl rfl rfl (fun h => ?_) (fun h => ?_) | refine SW.want rfl rfl ?_ | refine SW.skip rfl rfl rfl rfl ?_ | refine SW.skipu rfl rfl rfl ?_ | refine SW.split rfl rfl rfl (fun h => ?_) (fun h => ?_))
          | refine SW.pure rfl rfl ?_
          | (show SW _ _ _ _ (⟨_, Op.fieldAddr _ _ _, _, _, _, none⟩ :: _) _ _; refine SW.st (st_field rfl) rfl ?_)
          | (show SW _ _ _ _ (⟨_, Op.nilCheck _, _, _, _, none⟩ :: _) _ _; refine SW.st (st_nilCheck rfl) rfl ?_)
          | (show SW _ _ _ _ (⟨_, Op.build _ _, _, _, _, none⟩ :: _) _ _; refine SW.st (st_build rfl rfl) rfl ?_)
          | (show SW _ _ _ _ (⟨_, Op.binOp _ _ _ _ _, _, _, _, none⟩ :: _) _ _; first | refine SW.st (st_add rfl rfl (by omega) (by omega)) rfl ?_ | refine SW.st (st_sub rfl rfl (by omega) (by omega)) rfl ?_ | refine SW.st (st_mul rfl rfl (by omega) (by omega)) rfl ?_ | refine SW.st (st_quo rfl rfl (by omega) (by omega) (by omega)) rfl ?_ | refine SW.st (st_rem rfl rfl (by omega)) rfl ?_)
          | (show SW _ _ _ _ (⟨_, Op.indexAddr _ _ _, _, _, _, none⟩ :: _) _ _; refine SW.st (st_indexN rfl rfl (by assumption) (by omega)) rfl ?_)
          | (show SW _ _ _ _ (⟨_, Op.call ⟨.builtin .len, _, _⟩, _, _, _, none⟩ :: _) _ _; refine SW.st (st_len rfl) rfl ?_)
          | (show SW _ _ _ _ (⟨_, Op.call ⟨.builtin .cap, _, _⟩, _, _, _, none⟩ :: _) _ _; refine SW.st (st_cap rfl) rfl ?_))
        exact Post.cutn (K := K) (by rw [hK]; exact ⟨⟨rfl, trivial⟩, hw, by simpa [moved] using hO⟩)
      · obtain ⟨g, rest, rfl, hg1, hg2, hg3, hg4, hg5, hg6⟩ := hO.opened (by omega)
        have h9 := (hl.drop f c (by omega) (by omega)).pre (i := k) (by omega)
        have e1 : l.flatMap encI = (l.take t).flatMap encI ++ ((l.drop t).take k).flatMap encI ++ (l.drop (t + k)).flatMap encI := by
          rw [← List.flatMap_append, ← List.flatMap_append]
          congr 1
          rw [List.append_assoc, ← List.drop_drop, List.take_append_drop, List.take_append_drop]
        have e2 : ∀ q : List Int, (q.flatMap encI).length = q.length := fun q => by rw [length_flatMap_enc (sz := 1)]; omega
        refine CW.any 12 mixed (rb_tail (by kernel_rfl)) rfl fun w1 hw1 hRB => ?_
        replace hw := Ext.trans hw hw1; replace hO := hO.ext hw1; replace hg2 := hg2.ext hw1; clear hw1
        refine SA.take 0 hRB rfl (by kernel_rfl) (by kernel_rfl) rfl ?_
        repeat (first
          | (show SW _ _ _ _ (⟨_, _, _, _, _, some _⟩ :: _) _ _; first | refine SW.want_t rfl rfl (by with_reducible rfl) ?_ | refine SW.want_f rfl rfl (by with_reducible rfl) ?_ | refine SW.skip_t rfl rfl (by with_reducible rfl) rfl ?_ | refine SW.skip_f rfl rfl (by with_reducible rfl) rfl ?_ | refine SW.skip_u rfl rfl (by with_reducible rfl) rfl ?_ | refine SW.splitd_t rfl rfl rfl (by omega) ?_ | refine SW.splitd_f rfl rfl rfl (by omega) ?_ | refine SW.splitn_t rfl rfl rfl (by omega) ?_ | refine SW.splitn_f rfl rfl rfl (by omega) ?_ | refine SW.splitd rfl rfl rfl (fun h => ?_) (fun h => ?_) | refine SW.splitn rfl rfl rfl (fun h => ?_) (fun h => ?_) | refine SW.want rfl rfl ?_ | refine SW.skip rfl rfl rfl rfl ?_ | refine SW.skipu rfl rfl rfl ?_ | refine SW.split rfl rfl rfl (fun h => ?_) (fun h => ?_))
          | refine SW.pure rfl rfl ?_
          | (show SW _ _ _ _ (⟨_, Op.fieldAddr _ _ _, _, _, _, none⟩ :: _) _ _; refine SW.st (st_field rfl) rfl ?_)
          | (show SW _ _ _ _ (⟨_, Op.nilCheck _, _, _, _, none⟩ :: _) _ _; refine SW.st (st_nilCheck rfl) rfl ?_)
          | (show SW _ _ _ _ (⟨_, Op.build _ _, _, _, _, none⟩ :: _) _ _; refine SW.st (st_build rfl rfl) rfl ?_)
          | (show SW _ _ _ _ (⟨_, Op.binOp _ _ _ _ _, _, _, _, none⟩ :: _) _ _; first | refine SW.st (st_add rfl rfl (by omega) (by omega)) rfl ?_ | refine SW.st (st_sub rfl rfl (by omega) (by omega)) rfl ?_ | refine SW.st (st_mul rfl rfl (by omega) (by omega)) rfl ?_ | refine SW.st (st_quo rfl rfl (by omega) (by omega) (by omega)) rfl ?_ | refine SW.st (st_rem rfl rfl (by omega)) rfl ?_)
          | (show SW _ _ _ _ (⟨_, Op.indexAddr _ _ _, _, _, _, none⟩ :: _) _ _; refine SW.st (st_indexN rfl rfl (by assumption) (by omega)) rfl ?_)
          | (show SW _ _ _ _ (⟨_, Op.call ⟨.builtin .len, _, _⟩, _, _, _, none⟩ :: _) _ _; refine SW.st (st_len rfl) rfl ?_)
          | (show SW _ _ _ _ (⟨_, Op.call ⟨.builtin .cap, _, _⟩, _, _, _, none⟩ :: _) _ _; refine SW.st (st_cap rfl) rfl ?_)
          | (refine SW.st (st_sliceLH (i := t) (j := t + k) rfl rfl rfl (by omega) (by omega)) rfl ?_)
          | (refine SW.st (st_sliceLH (i := f) (j := f + k) rfl rfl rfl (by omega) (by omega)) rfl ?_))
        refine SW.tknil ?_
        refine SA.take 1 hRB rfl (by kernel_rfl) (by kernel_rfl) rfl ?_
        repeat (first
          | (show SW _ _ _ _ (⟨_, _, _, _, _, some _⟩ :: _) _ _; first | refine SW.want_t rfl rfl (by with_reducible rfl) ?_ | refine SW.want_f rfl rfl (by with_reducible rfl) ?_ | refine SW.skip_t rfl rfl (by with_reducible rfl) rfl ?_ | refine SW.skip_f rfl rfl (by with_reducible rfl) rfl ?_ | refine SW.skip_u rfl rfl (by with_reducible rfl) rfl ?_ | refine SW.splitd_t rfl rfl rfl (by omega) ?_ | refine SW.splitd_f rfl rfl rfl (by omega) ?_ | refine SW.splitn_t rfl rfl rfl (by omega) ?_ | refine SW.splitn_f rfl rfl rfl (by omega) ?_ | refine SW.splitd rfl rfl rfl (fun h => ?_) (fun h => ?_) | refine SW.splitn rfl rfl rfl (fun h => ?_) (fun h => ?_) | refine SW.want rfl rfl ?_ | refine SW.skip rfl rfl rfl rfl ?_ | refine SW.skipu rfl rfl rfl ?_ | refine SW.split rfl rfl rfl (fun h => ?_) (fun h => ?_))
          | refine SW.pure rfl rfl ?_
          | (show SW _ _ _ _ (⟨_, Op.fieldAddr _ _ _, _, _, _, none⟩ :: _) _ _; refine SW.st (st_field rfl) rfl ?_)
          | (show SW _ _ _ _ (⟨_, Op.nilCheck _, _, _, _, none⟩ :: _) _ _; refine SW.st (st_nilCheck rfl) rfl ?_)
          | (show SW _ _ _ _ (⟨_, Op.build _ _, _, _, _, none⟩ :: _) _ _; refine SW.st (st_build rfl rfl) rfl ?_)
          | (show SW _ _ _ _ (⟨_, Op.binOp _ _ _ _ _, _, _, _, none⟩ :: _) _ _; first | refine SW.st (st_add rfl rfl (by omega) (by omega)) rfl ?_ | refine SW.st (st_sub rfl rfl (by omega) (by omega)) rfl ?_ | refine SW.st (st_mul rfl rfl (by omega) (by omega)) rfl ?_ | refine SW.st (st_quo rfl rfl (by omega) (by omega) (by omega)) rfl ?_ | refine SW.st (st_rem rfl rfl (by omega)) rfl ?_)
          | (show SW _ _ _ _ (⟨_, Op.indexAddr _ _ _, _, _, _, none⟩ :: _) _ _; refine SW.st (st_indexN rfl rfl (by assumption) (by omega)) rfl ?_)
          | (show SW _ _ _ _ (⟨_, Op.call ⟨.builtin .len, _, _⟩, _, _, _, none⟩ :: _) _ _; refine SW.st (st_len rfl) rfl ?_)
          | (show SW _ _ _ _ (⟨_, Op.call ⟨.builtin .cap, _, _⟩, _, _, _, none⟩ :: _) _ _; refine SW.st (st_cap rfl) rfl ?_)
          | (refine SW.st (st_sliceLH (i := t) (j := t + k) rfl rfl rfl (by omega) (by omega)) rfl ?_)
          | (refine SW.st (st_sliceLH (i := f) (j := f + k) rfl rfl rfl (by omega) (by omega)) rfl ?_))
        refine SW.tknil ?_
        refine SA.take 2 hRB rfl (by kernel_rfl) (by kernel_rfl) rfl ?_
        repeat (first
          | (show SW _ _ _ _ (⟨_, _, _, _, _, some _⟩ :: _) _ _; first | refine SW.want_t rfl rfl (by with_reducible rfl) ?_ | refine SW.want_f rfl rfl (by with_reducible rfl) ?_ | refine SW.skip_t rfl rfl (by with_reducible rfl) rfl ?_ | refine SW.skip_f rfl rfl (by with_reducible rfl) rfl ?_ | refine SW.skip_u rfl rfl (by with_reducible rfl) rfl ?_ | refine SW.splitd_t rfl rfl rfl (by omega) ?_ | refine SW.splitd_f rfl rfl rfl (by omega) ?_ | refine SW.splitn_t rfl rfl rfl (by omega) ?_ | refine SW.splitn_f rfl rfl rfl (by omega) ?_ | refine SW.splitd rfl rfl rfl (fun h => ?_) (fun h => ?_) | refine SW.splitn rfl rfl rfl (fun h => ?_) (fun h => ?_) | refine SW.want rfl rfl ?_ | refine SW.skip rfl rfl rfl rfl ?_ | refine SW.skipu rfl rfl rfl ?_ | refine SW.split rfl rfl rfl (fun h => ?_) (fun h => ?_))
          | refine SW.pure rfl rfl ?_
          | (show SW _ _ _ _ (⟨_, Op.fieldAddr _ _ _, _, _, _, none⟩ :: _) _ _; refine SW.st (st_field rfl) rfl ?_)
          | (show SW _ _ _ _ (⟨_, Op.nilCheck _, _, _, _, none⟩ :: _) _ _; refine SW.st (st_nilCheck rfl) rfl ?_)
          | (show SW _ _ _ _ (⟨_, Op.build _ _, _, _, _, none⟩ :: _) _ _; refine SW.st (st_build rfl rfl) rfl ?_)
          | (show SW _ _ _ _ (⟨_, Op.binOp _ _ _ _ _, _, _, _, none⟩ :: _) _ _; first | refine SW.st (st_add rfl rfl (by omega) (by omega)) rfl ?_ | refine SW.st (st_sub rfl rfl (by omega) (by omega)) rfl ?_ | refine SW.st (st_mul rfl rfl (by omega) (by omega)) rfl ?_ | refine SW.st (st_quo rfl rfl (by omega) (by omega) (by omega)) rfl ?_ | refine SW.st (st_rem rfl rfl (by omega)) rfl ?_)
          | (show SW _ _ _ _ (⟨_, Op.indexAddr _ _ _, _, _, _, none⟩ :: _) _ _; refine SW.st (st_indexN rfl rfl (by assumption) (by omega)) rfl ?_)
          | (show SW _ _ _ _ (⟨_, Op.call ⟨.builtin .len, _, _⟩, _, _, _, none⟩ :: _) _ _; refine SW.st (st_len rfl) rfl ?_)
          | (show SW _ _ _ _ (⟨_, Op.call ⟨.builtin .cap, _, _⟩, _, _, _, none⟩ :: _) _ _; refine SW.st (st_cap rfl) rfl ?_)
          | (refine SW.st (st_sliceLH (i := t) (j := t + k) rfl rfl rfl (by omega) (by omega)) rfl ?_)
          | (refine SW.st (st_sliceLH (i := f) (j := f + k) rfl rfl rfl (by omega) (by omega)) rfl ?_))
        refine SW.tknil ?_
        refine SA.take 3 hRB rfl (by kernel_rfl) (by kernel_rfl) rfl ?_
        repeat (first
          | (show SW _ _ _ _ (⟨_, _, _, _, _, some _⟩ :: _) _ _; first | refine SW.want_t rfl rfl (by with_reducible rfl) ?_ | refine SW.want_f rfl rfl (by with_reducible rfl) ?_ | refine SW.skip_t rfl rfl (by with_reducible rfl) rfl ?_ | refine SW.skip_f rfl rfl (by with_reducible rfl) rfl ?_ | refine SW.skip_u rfl rfl (by with_reducible rfl) rfl ?_ | refine SW.splitd_t rfl rfl rfl (by omega) ?_ | refine SW.splitd_f rfl rfl rfl (by omega) ?_ | refine SW.splitn_t rfl rfl rfl (by omega) ?_ | refine SW.splitn_f rfl rfl rfl (by omega) ?_ | refine SW.splitd rfl rfl rfl (fun h => ?_) (fun h => ?_) | refine SW.splitn rfl rfl rfl (fun h => ?_) (fun h => ?_) | refine SW.want rfl rfl ?_ | refine SW.skip rfl rfl rfl rfl ?_ | refine SW.skipu rfl rfl rfl ?_ | refine SW.split rfl rfl rfl (fun h => ?_) (fun h => ?_))
          | refine SW.pure rfl rfl ?_
          | (show SW _ _ _ _ (⟨_, Op.fieldAddr _ _ _, _, _, _, none⟩ :: _) _ _; refine SW.st (st_field rfl) rfl ?_)
          | (show SW _ _ _ _ (⟨_, Op.nilCheck _, _, _, _, none⟩ :: _) _ _; refine SW.st (st_nilCheck rfl) rfl ?_)
          | (show SW _ _ _ _ (⟨_, Op.build _ _, _, _, _, none⟩ :: _) _ _; refine SW.st (st_build rfl rfl) rfl ?_)
          | (show SW _ _ _ _ (⟨_, Op.binOp _ _ _ _ _, _, _, _, none⟩ :: _) _ _; first | refine SW.st (st_add rfl rfl (by omega) (by omega)) rfl ?_ | refine SW.st (st_sub rfl rfl (by omega) (by omega)) rfl ?_ | refine SW.st (st_mul rfl rfl (by omega) (by omega)) rfl ?_ | refine SW.st (st_quo rfl rfl (by omega) (by omega) (by omega)) rfl ?_ | refine SW.st (st_rem rfl rfl (by omega)) rfl ?_)
          | (show SW _ _ _ _ (⟨_, Op.indexAddr _ _ _, _, _, _, none⟩ :: _) _ _; refine SW.st (st_indexN rfl rfl (by assumption) (by omega)) rfl ?_)
          | (show SW _ _ _ _ (⟨_, Op.call ⟨.builtin .len, _, _⟩, _, _, _, none⟩ :: _) _ _; refine SW.st (st_len rfl) rfl ?_)
          | (show SW _ _ _ _ (⟨_, Op.call ⟨.builtin .cap, _, _⟩, _, _, _, none⟩ :: _) _ _; refine SW.st (st_cap rfl) rfl ?_)
          | (refine SW.st (st_sliceLH (i := t) (j := t + k) rfl rfl rfl (by omega) (by omega)) rfl ?_)
          | (refine SW.st (st_sliceLH (i := f) (j := f + k) rfl rfl rfl (by omega) (by omega)) rfl ?_))
        refine SW.tknil ?_
        refine SA.take 4 hRB rfl (by kernel_rfl) (by kernel_rfl) rfl ?_
        repeat (first
          | (show SW _ _ _ _ (⟨_, _, _, _, _, some _⟩ :: _) _ _; first | refine SW.want_t rfl rfl (by with_reducible rfl) ?_ | refine SW.want_f rfl rfl (by with_reducible rfl) ?_ | refine SW.skip_t rfl rfl (by with_reducible rfl) rfl ?_ | refine SW.skip_f rfl rfl (by with_reducible rfl) rfl ?_ | refine SW.skip_u rfl rfl (by with_reducible rfl) rfl ?_ | refine SW.splitd_t rfl rfl rfl (by omega) ?_ | refine SW.splitd_f rfl rfl rfl (by omega) ?_ | refine SW.splitn_t rfl rfl rfl (by omega) ?_ | refine SW.splitn_f rfl rfl rfl (by omega) ?_ | refine SW.splitd rfl rfl rfl (fun h => ?_) (fun h => ?_) | refine SW.splitn rfl rfl rfl (fun h => ?_) (fun h => ?_) | refine SW.want rfl rfl ?_ | refine SW.skip rfl rfl rfl rfl ?_ | refine SW.skipu rfl rfl rfl ?_ | refine SW.split rfl rfl rfl (fun h => ?_) (fun h => ?_))
          | refine SW.pure rfl rfl ?_
          | (show SW _ _ _ _ (⟨_, Op.fieldAddr _ _ _, _, _, _, none⟩ :: _) _ _; refine SW.st (st_field rfl) rfl ?_)
          | (show SW _ _ _ _ (⟨_, Op.nilCheck _, _, _, _, none⟩ :: _) _ _; refine SW.st (st_nilCheck rfl) rfl ?_)
          | (show SW _ _ _ _ (⟨_, Op.build _ _, _, _, _, none⟩ :: _) _ _; refine SW.st (st_build rfl rfl) rfl ?_)
          | (show SW _ _ _ _ (⟨_, Op.binOp _ _ _ _ _, _, _, _, none⟩ :: _) _ _; first | refine SW.st (st_add rfl rfl (by omega) (by omega)) rfl ?_ | refine SW.st (st_sub rfl rfl (by omega) (by omega)) rfl ?_ | refine SW.st (st_mul rfl rfl (by omega) (by omega)) rfl ?_ | refine SW.st (st_quo rfl rfl (by omega) (by omega) (by omega)) rfl ?_ | refine SW.st (st_rem rfl rfl (by omega)) rfl ?_)
          | (show SW _ _ _ _ (⟨_, Op.indexAddr _ _ _, _, _, _, none⟩ :: _) _ _; refine SW.st (st_indexN rfl rfl (by assumption) (by omega)) rfl ?_)
          | (show SW _ _ _ _ (⟨_, Op.call ⟨.builtin .len, _, _⟩, _, _, _, none⟩ :: _) _ _; refine SW.st (st_len rfl) rfl ?_)
          | (show SW _ _ _ _ (⟨_, Op.call ⟨.builtin .cap, _, _⟩, _, _, _, none⟩ :: _) _ _; refine SW.st (st_cap rfl) rfl ?_)
          | (refine SW.st (st_sliceLH (i := t) (j := t + k) rfl rfl rfl (by omega) (by omega)) rfl ?_)
          | (refine SW.st (st_sliceLH (i := f) (j := f + k) rfl rfl rfl (by omega) (by omega)) rfl ?_))
        refine SW.tknil ?_
        refine SA.take 5 hRB rfl (by kernel_rfl) (by kernel_rfl) rfl ?_
        repeat (first
          | (show SW _ _ _ _ (⟨_, _, _, _, _, some _⟩ :: _) _ _; first | refine SW.want_t rfl rfl (by with_reducible rfl) ?_ | refine SW.want_f rfl rfl (by with_reducible rfl) ?_ | refine SW.skip_t rfl rfl (by with_reducible rfl) rfl ?_ | refine SW.skip_f rfl rfl (by with_reducible rfl) rfl ?_ | refine SW.skip_u rfl rfl (by with_reducible rfl) rfl ?_ | refine SW.splitd_t rfl rfl rfl (by omega) ?_ | refine SW.splitd_f rfl rfl rfl (by omega) ?_ | refine SW.splitn_t rfl rfl rfl (by omega) ?_ | refine SW.splitn_f rfl rfl rfl (by omega) ?_ | refine SW.splitd rfl rfl rfl (fun h => ?_) (fun h => ?_) | refine SW.splitn rfl rfl rfl (fun h => ?_) (fun h => ?_) | refine SW.want rfl rfl ?_ | refine SW.skip rfl rfl rfl rfl ?_ | refine SW.skipu rfl rfl rfl ?_ | refine SW.split rfl rfl rfl (fun h => ?_) (fun h => ?_))
          | refine SW.pure rfl rfl ?_
          | (show SW _ _ _ _ (⟨_, Op.fieldAddr _ _ _, _, _, _, none⟩ :: _) _ _; refine SW.st (st_field rfl) rfl ?_)
          | (show SW _ _ _ _ (⟨_, Op.nilCheck _, _, _, _, none⟩ :: _) _ _; refine SW.st (st_nilCheck rfl) rfl ?_)
          | (show SW _ _ _ _ (⟨_, Op.build _ _, _, _, _, none⟩ :: _) _ _; refine SW.st (st_build rfl rfl) rfl ?_)
          | (show SW _ _ _ _ (⟨_, Op.binOp _ _ _ _ _, _, _, _, none⟩ :: _) _ _; first | refine SW.st (st_add rfl rfl (by omega) (by omega)) rfl ?_ | refine SW.st (st_sub rfl rfl (by omega) (by omega)) rfl ?_ | refine SW.st (st_mul rfl rfl (by omega) (by omega)) rfl ?_ | refine SW.st (st_quo rfl rfl (by omega) (by omega) (by omega)) rfl ?_ | refine SW.st (st_rem rfl rfl (by omega)) rfl ?_)
          | (show SW _ _ _ _ (⟨_, Op.indexAddr _ _ _, _, _, _, none⟩ :: _) _ _; refine SW.st (st_indexN rfl rfl (by assumption) (by omega)) rfl ?_)
          | (show SW _ _ _ _ (⟨_, Op.call ⟨.builtin .len, _, _⟩, _, _, _, none⟩ :: _) _ _; refine SW.st (st_len rfl) rfl ?_)
          | (show SW _ _ _ _ (⟨_, Op.call ⟨.builtin .cap, _, _⟩, _, _, _, none⟩ :: _) _ _; refine SW.st (st_cap rfl) rfl ?_)
          | (refine SW.st (st_sliceLH (i := t) (j := t + k) rfl rfl rfl (by omega) (by omega)) rfl ?_)
          | (refine SW.st (st_sliceLH (i := f) (j := f + k) rfl rfl rfl (by omega) (by omega)) rfl ?_))
        refine SW.tknil ?_
        refine SA.take 6 hRB rfl (by kernel_rfl) (by kernel_rfl) rfl ?_
        repeat (first
          | (show SW _ _ _ _ (⟨_, _, _, _, _, some _⟩ :: _) _ _; first | refine SW.want_t rfl rfl (by with_reducible rfl) ?_ | refine SW.want_f rfl rfl (by with_reducible rfl) ?_ | refine SW.skip_t rfl rfl (by with_reducible rfl) rfl ?_ | refine SW.skip_f rfl rfl (by with_reducible rfl) rfl ?_ | refine SW.skip_u rfl rfl (by with_reducible rfl) rfl ?_ | refine SW.splitd_t rfl rfl rfl (by omega) ?_ | refine SW.splitd_f rfl rfl rfl (by omega) ?_ | refine SW.splitn_t rfl rfl rfl (by omega) ?_ | refine SW.splitn_f rfl rfl rfl (by omega) ?_ | refine SW.splitd rfl rfl rfl (fun h => ?_) (fun h => ?_) | refine SW.splitn rfl rfl rfl (fun h => ?_) (fun h => ?_) | refine SW.want rfl rfl ?_ | refine SW.skip rfl rfl rfl rfl ?_ | refine SW.skipu rfl rfl rfl ?_ | refine SW.split rfl rfl rfl (fun h => ?_) (fun h => ?_))
          | refine SW.pure rfl rfl ?_
          | (show SW _ _ _ _ (⟨_, Op.fieldAddr _ _ _, _, _, _, none⟩ :: _) _ _; refine SW.st (st_field rfl) rfl ?_)
          | (show SW _ _ _ _ (⟨_, Op.nilCheck _, _, _, _, none⟩ :: _) _ _; refine SW.st (st_nilCheck rfl) rfl ?_)
          | (show SW _ _ _ _ (⟨_, Op.build _ _, _, _, _, none⟩ :: _) _ _; refine SW.st (st_build rfl rfl) rfl ?_)
          | (show SW _ _ _ _ (⟨_, Op.binOp _ _ _ _ _, _, _, _, none⟩ :: _) _ _; first | refine SW.st (st_add rfl rfl (by omega) (by omega)) rfl ?_ | refine SW.st (st_sub rfl rfl (by omega) (by omega)) rfl ?_ | refine SW.st (st_mul rfl rfl (by omega) (by omega)) rfl ?_ | refine SW.st (st_quo rfl rfl (by omega) (by omega) (by omega)) rfl ?_ | refine SW.st (st_rem rfl rfl (by omega)) rfl ?_)
          | (show SW _ _ _ _ (⟨_, Op.indexAddr _ _ _, _, _, _, none⟩ :: _) _ _; refine SW.st (st_indexN rfl rfl (by assumption) (by omega)) rfl ?_)
          | (show SW _ _ _ _ (⟨_, Op.call ⟨.builtin .len, _, _⟩, _, _, _, none⟩ :: _) _ _; refine SW.st (st_len rfl) rfl ?_)
          | (show SW _ _ _ _ (⟨_, Op.call ⟨.builtin .cap, _, _⟩, _, _, _, none⟩ :: _) _ _; refine SW.st (st_cap rfl) rfl ?_)
          | (refine SW.st (st_sliceLH (i := t) (j := t + k) rfl rfl rfl (by omega) (by omega)) rfl ?_)
          | (refine SW.st (st_sliceLH (i := f) (j := f + k) rfl rfl rfl (by omega) (by omega)) rfl ?_))
        refine SW.tknil ?_
        refine SA.take 7 hRB rfl (by kernel_rfl) (by kernel_rfl) rfl ?_
        repeat (first
          | (show SW _ _ _ _ (⟨_, _, _, _, _, some _⟩ :: _) _ _; first | refine SW.want_t rfl rfl (by with_reducible rfl) ?_ | refine SW.want_f rfl rfl (by with_reducible rfl) ?_ | refine SW.skip_t rfl rfl (by with_reducible rfl) rfl ?_ | refine SW.skip_f rfl rfl (by with_reducible rfl) rfl ?_ | refine SW.skip_u rfl rfl (by with_reducible rfl) rfl ?_ | refine SW.splitd_t rfl rfl rfl (by omega) ?_ | refine SW.splitd_f rfl rfl rfl (by omega) ?_ | refine SW.splitn_t rfl rfl rfl (by omega) ?_ | refine SW.splitn_f rfl rfl rfl (by omega) ?_ | refine SW.splitd rfl rfl rfl (fun h => ?_) (fun h => ?_) | refine SW.splitn rfl rfl rfl (fun h => ?_) (fun h => ?_) | refine SW.want rfl rfl ?_ | refine SW.skip rfl rfl rfl rfl ?_ | refine SW.skipu rfl rfl rfl ?_ | refine SW.split rfl rfl rfl (fun h => ?_) (fun h => ?_))
          | refine SW.pure rfl rfl ?_
          | (show SW _ _ _ _ (⟨_, Op.fieldAddr _ _ _, _, _, _, none⟩ :: _) _ _; refine SW.st (st_field rfl) rfl ?_)
          | (show SW _ _ _ _ (⟨_, Op.nilCheck _, _, _, _, none⟩ :: _) _ _; refine SW.st (st_nilCheck rfl) rfl ?_)
          | (show SW _ _ _ _ (⟨_, Op.build _ _, _, _, _, none⟩ :: _) _ _; refine SW.st (st_build rfl rfl) rfl ?_)
          | (show SW _ _ _ _ (⟨_, Op.binOp _ _ _ _ _, _, _, _, none⟩ :: _) _ _; first | refine SW.st (st_add rfl rfl (by omega) (by omega)) rfl ?_ | refine SW.st (st_sub rfl rfl (by omega) (by omega)) rfl ?_ | refine SW.st (st_mul rfl rfl (by omega) (by omega)) rfl ?_ | refine SW.st (st_quo rfl rfl (by omega) (by omega) (by omega)) rfl ?_ | refine SW.st (st_rem rfl rfl (by omega)) rfl ?_)
          | (show SW _ _ _ _ (⟨_, Op.indexAddr _ _ _, _, _, _, none⟩ :: _) _ _; refine SW.st (st_indexN rfl rfl (by assumption) (by omega)) rfl ?_)
          | (show SW _ _ _ _ (⟨_, Op.call ⟨.builtin .len, _, _⟩, _, _, _, none⟩ :: _) _ _; refine SW.st (st_len rfl) rfl ?_)
          | (show SW _ _ _ _ (⟨_, Op.call ⟨.builtin .cap, _, _⟩, _, _, _, none⟩ :: _) _ _; refine SW.st (st_cap rfl) rfl ?_)
          | (refine SW.st (st_sliceLH (i := t) (j := t + k) rfl rfl rfl (by omega) (by omega)) rfl ?_)
          | (refine SW.st (st_sliceLH (i := f) (j := f + k) rfl rfl rfl (by omega) (by omega)) rfl ?_))
        refine SW.tknil ?_
        refine SA.take 8 hRB rfl (by kernel_rfl) (by kernel_rfl) rfl ?_
        repeat (first
          | (show SW _ _ _ _ (⟨_, _, _, _, _, some _⟩ :: _) _ _; first | refine SW.want_t rfl rfl (by with_reducible rfl) ?_ | refine SW.want_f rfl rfl (by with_reducible rfl) ?_ | refine SW.skip_t rfl rfl (by with_reducible rfl) rfl ?_ | refine SW.skip_f rfl rfl (by with_reducible rfl) rfl ?_ | refine SW.skip_u rfl rfl (by with_reducible rfl) rfl ?_ | refine SW.splitd_t rfl rfl rfl (by omega) ?_ | refine SW.splitd_f rfl rfl rfl (by omega) ?_ | refine SW.splitn_t rfl rfl rfl (by omega) ?_ | refine SW.splitn_f rfl rfl rfl (by omega) ?_ | refine SW.splitd rfl rfl rfl (fun h => ?_) (fun h => ?_) | refine SW.splitn rfl rfl rfl (fun h => ?_) (fun h => ?_) | refine SW.want rfl rfl ?_ | refine SW.skip rfl rfl rfl rfl ?_ | refine SW.skipu rfl rfl rfl ?_ | refine SW.split rfl rfl rfl (fun h => ?_) (fun h => ?_))
          | refine SW.pure rfl rfl ?_
          | (show SW _ _ _ _ (⟨_, Op.fieldAddr _ _ _, _, _, _, none⟩ :: _) _ _; refine SW.st (st_field rfl) rfl ?_)
          | (show SW _ _ _ _ (⟨_, Op.nilCheck _, _, _, _, none⟩ :: _) _ _; refine SW.st (st_nilCheck rfl) rfl ?_)
          | (show SW _ _ _ _ (⟨_, Op.build _ _, _, _, _, none⟩ :: _) _ _; refine SW.st (st_build rfl rfl) rfl ?_)
          | (show SW _ _ _ _ (⟨_, Op.binOp _ _ _ _ _, _, _, _, none⟩ :: _) _ _; first | refine SW.st (st_add rfl rfl (by omega) (by omega)) rfl ?_ | refine SW.st (st_sub rfl rfl (by omega) (by omega)) rfl ?_ | refine SW.st (st_mul rfl rfl (by omega) (by omega)) rfl ?_ | refine SW.st (st_quo rfl rfl (by omega) (by omega) (by omega)) rfl ?_ | refine SW.st (st_rem rfl rfl (by omega)) rfl ?_)
          | (show SW _ _ _ _ (⟨_, Op.indexAddr _ _ _, _, _, _, none⟩ :: _) _ _; refine SW.st (st_indexN rfl rfl (by assumption) (by omega)) rfl ?_)
          | (show SW _ _ _ _ (⟨_, Op.call ⟨.builtin .len, _, _⟩, _, _, _, none⟩ :: _) _ _; refine SW.st (st_len rfl) rfl ?_)
          | (show SW _ _ _ _ (⟨_, Op.call ⟨.builtin .cap, _, _⟩, _, _, _, none⟩ :: _) _ _; refine SW.st (st_cap rfl) rfl ?_)
          | (refine SW.st (st_sliceLH (i := t) (j := t + k) rfl rfl rfl (by omega) (by omega)) rfl ?_)
          | (refine SW.st (st_sliceLH (i := f) (j := f + k) rfl rfl rfl (by omega) (by omega)) rfl ?_))
        refine SW.tknil ?_
        refine SA.take 9 hRB rfl (by kernel_rfl) (by kernel_rfl) rfl ?_
        repeat (first
          | (show SW _ _ _ _ (⟨_, _, _, _, _, some _⟩ :: _) _ _; first | refine SW.want_t rfl rfl (by with_reducible rfl) ?_ | refine SW.want_f rfl rfl (by with_reducible rfl) ?_ | refine SW.skip_t rfl rfl (by with_reducible rfl) rfl ?_ | refine SW.skip_f rfl rfl (by with_reducible rfl) rfl ?_ | refine SW.skip_u rfl rfl (by with_reducible rfl) rfl ?_ | refine SW.splitd_t rfl rfl rfl (by omega) ?_ | refine SW.splitd_f rfl rfl rfl (by omega) ?_ | refine SW.splitn_t rfl rfl rfl (by omega) ?_ | refine SW.splitn_f rfl rfl rfl (by omega) ?_ | refine SW.splitd rfl rfl rfl (fun h => ?_) (fun h => ?_) | refine SW.splitn rfl rfl rfl (fun h => ?_) (fun h => ?_) | refine SW.want rfl rfl ?_ | refine SW.skip rfl rfl rfl rfl ?_ | refine SW.skipu rfl rfl rfl ?_ | refine SW.split rfl rfl rfl (fun h => ?_) (fun h => ?_))
          | refine SW.pure rfl rfl ?_
          | (show SW _ _ _ _ (⟨_, Op.fieldAddr _ _ _, _, _, _, none⟩ :: _) _ _; refine SW.st (st_field rfl) rfl ?_)
          | (show SW _ _ _ _ (⟨_, Op.nilCheck _, _, _, _, none⟩ :: _) _ _; refine SW.st (st_nilCheck rfl) rfl ?_)
          | (show SW _ _ _ _ (⟨_, Op.build _ _, _, _, _, none⟩ :: _) _ _; refine SW.st (st_build rfl rfl) rfl ?_)
          | (show SW _ _ _ _ (⟨_, Op.binOp _ _ _ _ _, _, _, _, none⟩ :: _) _ _; first | refine SW.st (st_add rfl rfl (by omega) (by omega)) rfl ?_ | refine SW.st (st_sub rfl rfl (by omega) (by omega)) rfl ?_ | refine SW.st (st_mul rfl rfl (by omega) (by omega)) rfl ?_ | refine SW.st (st_quo rfl rfl (by omega) (by omega) (by omega)) rfl ?_ | refine SW.st (st_rem rfl rfl (by omega)) rfl ?_)
          | (show SW _ _ _ _ (⟨_, Op.indexAddr _ _ _, _, _, _, none⟩ :: _) _ _; refine SW.st (st_indexN rfl rfl (by assumption) (by omega)) rfl ?_)
          | (show SW _ _ _ _ (⟨_, Op.call ⟨.builtin .len, _, _⟩, _, _, _, none⟩ :: _) _ _; refine SW.st (st_len rfl) rfl ?_)
          | (show SW _ _ _ _ (⟨_, Op.call ⟨.builtin .cap, _, _⟩, _, _, _, none⟩ :: _) _ _; refine SW.st (st_cap rfl) rfl ?_)
          | (refine SW.st (st_sliceLH (i := t) (j := t + k) rfl rfl rfl (by omega) (by omega)) rfl ?_)
          | (refine SW.st (st_sliceLH (i := f) (j := f + k) rfl rfl rfl (by omega) (by omega)) rfl ?_))
        refine SW.tknil ?_
        refine SA.take 10 hRB rfl (by kernel_rfl) (by kernel_rfl) rfl ?_
        repeat (first
          | (show SW _ _ _ _ (⟨_, _, _, _, _, some _⟩ :: _) _ _; first | refine SW.want_t rfl rfl (by with_reducible rfl) ?_ | refine SW.want_f rfl rfl (by with_reducible rfl) ?_ | refine SW.skip_t rfl rfl (by with_reducible rfl) rfl ?_ | refine SW.skip_f rfl rfl (by with_reducible rfl) rfl ?_ | refine SW.skip_u rfl rfl (by with_reducible rfl) rfl ?_ | refine SW.splitd_t rfl rfl rfl (by omega) ?_ | refine SW.splitd_f rfl rfl rfl (by omega) ?_ | refine SW.splitn_t rfl rfl rfl (by omega) ?_ | refine SW.splitn_f rfl rfl rfl (by omega) ?_ | refine SW.splitd rfl rfl rfl (fun h => ?_) (fun h => ?_) | refine SW.splitn rfl rfl rfl (fun h => ?_) (fun h => ?_) | refine SW.want rfl rfl ?_ | refine SW.skip rfl rfl rfl rfl ?_ | refine SW.skipu rfl rfl rfl ?_ | refine SW.split rfl rfl rfl (fun h => ?_) (fun h => ?_))
          | refine SW.pure rfl rfl ?_
          | (show SW _ _ _ _ (⟨_, Op.fieldAddr _ _ _, _, _, _, none⟩ :: _) _ _; refine SW.st (st_field rfl) rfl ?_)
          | (show SW _ _ _ _ (⟨_, Op.nilCheck _, _, _, _, none⟩ :: _) _ _; refine SW.st (st_nilCheck rfl) rfl ?_)
          | (show SW _ _ _ _ (⟨_, Op.build _ _, _, _, _, none⟩ :: _) _ _; refine SW.st (st_build rfl rfl) rfl ?_)
          | (show SW _ _ _ _ (⟨_, Op.binOp _ _ _ _ _, _, _, _, none⟩ :: _) _ _; first | refine SW.st (st_add rfl rfl (by omega) (by omega)) rfl ?_ | refine SW.st (st_sub rfl rfl (by omega) (by omega)) rfl ?_ | refine SW.st (st_mul rfl rfl (by omega) (by omega)) rfl ?_ | refine SW.st (st_quo rfl rfl (by omega) (by omega) (by omega)) rfl ?_ | refine SW.st (st_rem rfl rfl (by omega)) rfl ?_)
          | (show SW _ _ _ _ (⟨_, Op.indexAddr _ _ _, _, _, _, none⟩ :: _) _ _; refine SW.st (st_indexN rfl rfl (by assumption) (by omega)) rfl ?_)
          | (show SW _ _ _ _ (⟨_, Op.call ⟨.builtin .len, _, _⟩, _, _, _, none⟩ :: _) _ _; refine SW.st (st_len rfl) rfl ?_)
          | (show SW _ _ _ _ (⟨_, Op.call ⟨.builtin .cap, _, _⟩, _, _, _, none⟩ :: _) _ _; refine SW.st (st_cap rfl) rfl ?_)
          | (refine SW.st (st_sliceLH (i := t) (j := t + k) rfl rfl rfl (by omega) (by omega)) rfl ?_)
          | (refine SW.st (st_sliceLH (i := f) (j := f + k) rfl rfl rfl (by omega) (by omega)) rfl ?_))
        refine SW.tknil ?_
        refine SA.take 11 hRB rfl (by kernel_rfl) (by kernel_rfl) rfl ?_
        repeat (first
          | (show SW _ _ _ _ (⟨_, _, _, _, _, some _⟩ :: _) _ _; first | refine SW.want_t rfl rfl (by with_reducible rfl) ?_ | refine SW.want_f rfl rfl (by with_reducible rfl) ?_ | refine SW.skip_t rfl rfl (by with_reducible rfl) rfl ?_ | refine SW.skip_f rfl rfl (by with_reducible rfl) rfl ?_ | refine SW.skip_u rfl rfl (by with_reducible rfl) rfl ?_ | refine SW.splitd_t rfl rfl rfl (by omega) ?_ | refine SW.splitd_f rfl rfl rfl (by omega) ?_ | refine SW.splitn_t rfl rfl rfl (by omega) ?_ | refine SW.splitn_f rfl rfl rfl (by omega) ?_ | refine SW.splitd rfl rfl rfl (fun h => ?_) (fun h => ?_) | refine SW.splitn rfl rfl rfl (fun h => ?_) (fun h => ?_) | refine SW.want rfl rfl ?_ | refine SW.skip rfl rfl rfl rfl ?_ | refine SW.skipu rfl rfl rfl ?_ | refine SW.split rfl rfl rfl (fun h => ?_) (fun h => ?_))
          | refine SW.pure rfl rfl ?_
          | (show SW _ _ _ _ (⟨_, Op.fieldAddr _ _ _, _, _, _, none⟩ :: _) _ _; refine SW.st (st_field rfl) rfl ?_)
          | (show SW _ _ _ _ (⟨_, Op.nilCheck _, _, _, _, none⟩ :: _) _ _; refine SW.st (st_nilCheck rfl) rfl ?_)
          | (show SW _ _ _ _ (⟨_, Op.build _ _, _, _, _, none⟩ :: _) _ _; refine SW.st (st_build rfl rfl) rfl ?_)
          | (show SW _ _ _ _ (⟨_, Op.binOp _ _ _ _ _, _, _, _, none⟩ :: _) _ _; first | refine SW.st (st_add rfl rfl (by omega) (by omega)) rfl ?_ | refine SW.st (st_sub rfl rfl (by omega) (by omega)) rfl ?_ | refine SW.st (st_mul rfl rfl (by omega) (by omega)) rfl ?_ | refine SW.st (st_quo rfl rfl (by omega) (by omega) (by omega)) rfl ?_ | refine SW.st (st_rem rfl rfl (by omega)) rfl ?_)
          | (show SW _ _ _ _ (⟨_, Op.indexAddr _ _ _, _, _, _, none⟩ :: _) _ _; refine SW.st (st_indexN rfl rfl (by assumption) (by omega)) rfl ?_)
          | (show SW _ _ _ _ (⟨_, Op.call ⟨.builtin .len, _, _⟩, _, _, _, none⟩ :: _) _ _; refine SW.st (st_len rfl) rfl ?_)
          | (show SW _ _ _ _ (⟨_, Op.call ⟨.builtin .cap, _, _⟩, _, _, _, none⟩ :: _) _ _; refine SW.st (st_cap rfl) rfl ?_)
          | (refine SW.st (st_sliceLH (i := t) (j := t + k) rfl rfl rfl (by omega) (by omega)) rfl ?_)
          | (refine SW.st (st_sliceLH (i := f) (j := f + k) rfl rfl rfl (by omega) (by omega)) rfl ?_))
        refine SW.tknil ?_
        refine SA.done (by kernel_rfl) ?_
        refine SW.copy (k := k) t (((l.drop f).take k).flatMap encI) hg2 rfl rfl rfl (by omega) (by rw [e2]; simp; omega) (by rw [List.length_append, e2, e2]; simp; omega) (fun h0 => ⟨?_, (if c = f then A else A.map (·.add (f * 1))).getD default, ?_, fun j v hv => ?_⟩) (fun v hv => ?_) fun w6 hg2' hg => ?_
        · rw [if_neg (by omega)]; simp [addr_of]
        · have := h9.base h0
          obtain ⟨a, ha⟩ := Option.isSome_iff_exists.1 this
          rw [ha]; rfl
        · exact cells_flatMap (by omega) (h9.ext hw) j v hv
        · obtain ⟨u, _, hu⟩ := List.mem_flatMap.1 hv
          exact Enc.one (enc := encI) u v hu
        · rw [← hg6] at hg
          replace hw := ext_grown hw hg (Nat.le_refl _) hO.row_ge
          rw [e1, List.append_assoc, lay_mid _ _ _ _ (by rw [e2, e2]; simp; omega) (by rw [e2]; simp; omega), ← List.append_assoc, ← List.flatMap_append, ← List.flatMap_append] at hg2'
          replace hO := Own.closed (l := moved l t f k) (by rw [moved_len (by omega) (by omega)]; exact hll) hg2' hg3 hg4 (by omega) hg5 hg1
          repeat' (first
            | (show CW _ _ _ _ _ _; first | refine CW.seq ?_ | refine CW.region ?_ | refine CW.block ?_ | refine CW.condtr rfl (by with_reducible rfl) ?_ | refine CW.condfr rfl (by with_reducible rfl) ?_ | refine CW.condd_t rfl (by omega) ?_ | refine CW.condd_f rfl (by omega) ?_ | refine CW.condn_t rfl (by omega) ?_ | refine CW.condn_f rfl (by omega) ?_ | refine CW.condd rfl (fun h => ?_) (fun h => ?_) | refine CW.condn rfl (fun h => ?_) (fun h => ?_) | refine CW.condt rfl ?_ | refine CW.condf rfl ?_ | refine CW.cond rfl (fun h => ?_) (fun h => ?_) | refine CW.skip ?_ | refine CW.ret ?_ | refine CW.exit ?_)
            | (show Post _ _ _ _ _; first | refine Post.seq ?_ | refine Post.seq_ret ?_ | refine Post.seq_exit ?_ | refine Post.hit ?_ | refine Post.pass rfl ?_ | refine Post.blk ?_ | refine Post.blk_ret ?_ | refine Post.again_exit ?_ | refine Post.again_ret ?_ | refine Post.np ?_)
            | refine SW.nil ?_
            | (show SW _ _ _ _ (⟨_, _, _, _, _, some _⟩ :: _) _ _; first | refine SW.want_t rfl rfl (by with_reducible rfl) ?_ | refine SW.want_f rfl rfl (by with_reducible rfl) ?_ | refine SW.skip_t rfl rfl (by with_reducible rfl) rfl ?_ | refine SW.skip_f rfl rfl (by with_reducible rfl) rfl ?_ | refine SW.skip_u rfl rfl (by with_reducible rfl) rfl ?_ | refine SW.splitd_t rfl rfl rfl (by omega) ?_ | refine SW.splitd_f rfl rfl rfl (by omega) ?_ | refine SW.splitn_t rfl rfl rfl (by omega) ?_ | refine SW.splitn_f rfl rfl rfl (by omega) ?_ | refine SW.splitd rfl rfl rfl (fun h => ?_) (fun h => ?_) | refine SW.splitn rfl rfl rfl (fun h => ?_) (fun h => ?_) | refine SW.want rfl rfl ?_ | refine SW.skip rfl rfl rfl rfl ?_ | refine SW.skipu rfl rfl rfl ?_ | refine SW.split rfl rfl rfl (fun h => ?_) (fun h => ?_))
            | refine SW.pure rfl rfl ?_
            | (show SW _ _ _ _ (⟨_, Op.fieldAddr _ _ _, _, _, _, none⟩ :: _) _ _; refine SW.st (st_field rfl) rfl ?_)
            | (show SW _ _ _ _ (⟨_, Op.nilCheck _, _, _, _, none⟩ :: _) _ _; refine SW.st (st_nilCheck rfl) rfl ?_)
            | (show SW _ _ _ _ (⟨_, Op.build _ _, _, _, _, none⟩ :: _) _ _; refine SW.st (st_build rfl rfl) rfl ?_)
            | (show SW _ _ _ _ (⟨_, Op.binOp _ _ _ _ _, _, _, _, none⟩ :: _) _ _; first | refine SW.st (st_add rfl rfl (by omega) (by omega)) rfl ?_ | refine SW.st (st_sub rfl rfl (by omega) (by omega)) rfl ?_ | refine SW.st (st_mul rfl rfl (by omega) (by omega)) rfl ?_ | refine SW.st (st_quo rfl rfl (by omega) (by omega) (by omega)) rfl ?_ | refine SW.st (st_rem rfl rfl (by omega)) rfl ?_)
            | (show SW _ _ _ _ (⟨_, Op.indexAddr _ _ _, _, _, _, none⟩ :: _) _ _; refine SW.st (st_indexN rfl rfl (by assumption) (by omega)) rfl ?_)
            | (show SW _ _ _ _ (⟨_, Op.call ⟨.builtin .len, _, _⟩, _, _, _, none⟩ :: _) _ _; refine SW.st (st_len rfl) rfl ?_)
            | (show SW _ _ _ _ (⟨_, Op.call ⟨.builtin .cap, _, _⟩, _, _, _, none⟩ :: _) _ _; refine SW.st (st_cap rfl) rfl ?_))
          exact Post.cutn (K := K) (by rw [hK]; exact ⟨⟨rfl, trivial⟩, hw, hO⟩)
    · clear hw hO
      subst hK
      rintro L' w' ⟨hsub, hw, hO⟩
      refine Post.sub hsub ?_
      repeat' (first
        | (show CW _ _ _ _ _ _; first | refine CW.seq ?_ | refine CW.region ?_ | refine CW.block ?_ | refine CW.condtr rfl (by with_reducible rfl) ?_ | refine CW.condfr rfl (by with_reducible rfl) ?_ | refine CW.condd_t rfl (by omega) ?_ | refine CW.condd_f rfl (by omega) ?_ | refine CW.condn_t rfl (by omega) ?_ | refine CW.condn_f rfl (by omega) ?_ | refine CW.condd rfl (fun h => ?_) (fun h => ?_) | refine CW.condn rfl (fun h => ?_) (fun h => ?_) | refine CW.condt rfl ?_ | refine CW.condf rfl ?_ | refine CW.cond rfl (fun h => ?_) (fun h => ?_) | refine CW.skip ?_ | refine CW.ret ?_ | refine CW.exit ?_)
        | (show Post _ _ _ _ _; first | refine Post.seq ?_ | refine Post.seq_ret ?_ | refine Post.seq_exit ?_ | refine Post.hit ?_ | refine Post.pass rfl ?_ | refine Post.blk ?_ | refine Post.blk_ret ?_ | refine Post.again_exit ?_ | refine Post.again_ret ?_ | refine Post.np ?_)
        | refine SW.nil ?_
        | (show SW _ _ _ _ (⟨_, _, _, _, _, some _⟩ :: _) _ _; first | refine SW.want_t rfl rfl (by with_reducible rfl) ?_ | refine SW.want_f rfl rfl (by with_reducible rfl) ?_ | refine SW.skip_t rfl rfl (by with_reducible rfl) rfl ?_ | refine SW.skip_f rfl rfl (by with_reducible rfl) rfl ?_ | refine SW.skip_u rfl rfl (by with_reducible rfl) rfl ?_ | refine SW.splitd_t rfl rfl rfl (by omega) ?_ | refine SW.splitd_f rfl rfl rfl (by omega) ?_ | refine SW.splitn_t rfl rfl rfl (by omega) ?_ | refine SW.splitn_f rfl rfl rfl (by omega) ?_ | refine SW.splitd rfl rfl rfl (fun h => ?_) (fun h => ?_) | refine SW.splitn rfl rfl rfl (fun h => ?_) (fun h => ?_) | refine SW.want rfl rfl ?_ | refine SW.skip rfl rfl rfl rfl ?_ | refine SW.skipu rfl rfl rfl ?_ | refine SW.split rfl rfl rfl (fun h => ?_) (fun h => ?_))
        | refine SW.pure rfl rfl ?_
        | (show SW _ _ _ _ (⟨_, Op.fieldAddr _ _ _, _, _, _, none⟩ :: _) _ _; refine SW.st (st_field rfl) rfl ?_)
        | (show SW _ _ _ _ (⟨_, Op.nilCheck _, _, _, _, none⟩ :: _) _ _; refine SW.st (st_nilCheck rfl) rfl ?_)
        | (show SW _ _ _ _ (⟨_, Op.build _ _, _, _, _, none⟩ :: _) _ _; refine SW.st (st_build rfl rfl) rfl ?_)
        | (show SW _ _ _ _ (⟨_, Op.binOp _ _ _ _ _, _, _, _, none⟩ :: _) _ _; first | refine SW.st (st_add rfl rfl (by omega) (by omega)) rfl ?_ | refine SW.st (st_sub rfl rfl (by omega) (by omega)) rfl ?_ | refine SW.st (st_mul rfl rfl (by omega) (by omega)) rfl ?_ | refine SW.st (st_quo rfl rfl (by omega) (by omega) (by omega)) rfl ?_ | refine SW.st (st_rem rfl rfl (by omega)) rfl ?_)
        | (show SW _ _ _ _ (⟨_, Op.indexAddr _ _ _, _, _, _, none⟩ :: _) _ _; refine SW.st (st_indexN rfl rfl (by assumption) (by omega)) rfl ?_)
        | (show SW _ _ _ _ (⟨_, Op.call ⟨.builtin .len, _, _⟩, _, _, _, none⟩ :: _) _ _; refine SW.st (st_len rfl) rfl ?_)
        | (show SW _ _ _ _ (⟨_, Op.call ⟨.builtin .cap, _, _⟩, _, _, _, none⟩ :: _) _ _; refine SW.st (st_cap rfl) rfl ?_))
      refine Post.ret2 rfl rfl rfl ⟨_, rfl, hw, ?_⟩
      unfold MoveOut
      rw [if_pos hx]
      exact ⟨A1, c1, rfl, hO⟩
  · repeat' (first
      | (show CW _ _ _ _ _ _; first | refine CW.seq ?_ | refine CW.region ?_ | refine CW.block ?_ | refine CW.condtr rfl (by with_reducible rfl) ?_ | refine CW.condfr rfl (by with_reducible rfl) ?_ | refine CW.condd_t rfl (by omega) ?_ | refine CW.condd_f rfl (by omega) ?_ | refine CW.condn_t rfl (by omega) ?_ | refine CW.condn_f rfl (by omega) ?_ | refine CW.condd rfl (fun h => ?_) (fun h => ?_) | refine CW.condn rfl (fun h => ?_) (fun h => ?_) | refine CW.condt rfl ?_ | refine CW.condf rfl ?_ | refine CW.cond rfl (fun h => ?_) (fun h => ?_) | refine CW.skip ?_ | refine CW.ret ?_ | refine CW.exit ?_)
      | (show Post _ _ _ _ _; first | refine Post.seq ?_ | refine Post.seq_ret ?_ | refine Post.seq_exit ?_ | refine Post.hit ?_ | refine Post.pass rfl ?_ | refine Post.blk ?_ | refine Post.blk_ret ?_ | refine Post.again_exit ?_ | refine Post.again_ret ?_ | refine Post.np ?_)
      | refine SW.nil ?_
      | (show SW _ _ _ _ (⟨_, _, _, _, _, some _⟩ :: _) _ _; first | refine SW.want_t rfl rfl (by with_reducible rfl) ?_ | refine SW.want_f rfl rfl (by with_reducible rfl) ?_ | refine SW.skip_t rfl rfl (by with_reducible rfl) rfl ?_ | refine SW.skip_f rfl rfl (by with_reducible rfl) rfl ?_ | refine SW.skip_u rfl rfl (by with_reducible rfl) rfl ?_ | refine SW.splitd_t rfl rfl rfl (by omega) ?_ | refine SW.splitd_f rfl rfl rfl (by omega) ?_ | refine SW.splitn_t rfl rfl rfl (by omega) ?_ | refine SW.splitn_f rfl rfl rfl (by omega) ?_ | refine SW.splitd rfl rfl rfl (fun h => ?_) (fun h => ?_) | refine SW.splitn rfl rfl rfl (fun h => ?_) (fun h => ?_) | refine SW.want rfl rfl ?_ | refine SW.skip rfl rfl rfl rfl ?_ | refine SW.skipu rfl rfl rfl ?_ | refine SW.split rfl rfl rfl (fun h => ?_) (fun h => ?_))
      | refine SW.pure rfl rfl ?_
      | (show SW _ _ _ _ (⟨_, Op.fieldAddr _ _ _, _, _, _, none⟩ :: _) _ _; refine SW.st (st_field rfl) rfl ?_)
      | (show SW _ _ _ _ (⟨_, Op.nilCheck _, _, _, _, none⟩ :: _) _ _; refine SW.st (st_nilCheck rfl) rfl ?_)
      | (show SW _ _ _ _ (⟨_, Op.build _ _, _, _, _, none⟩ :: _) _ _; refine SW.st (st_build rfl rfl) rfl ?_)
      | (show SW _ _ _ _ (⟨_, Op.binOp _ _ _ _ _, _, _, _, none⟩ :: _) _ _; first | refine SW.st (st_add rfl rfl (by omega) (by omega)) rfl ?_ | refine SW.st (st_sub rfl rfl (by omega) (by omega)) rfl ?_ | refine SW.st (st_mul rfl rfl (by omega) (by omega)) rfl ?_ | refine SW.st (st_quo rfl rfl (by omega) (by omega) (by omega)) rfl ?_ | refine SW.st (st_rem rfl rfl (by omega)) rfl ?_)
      | (show SW _ _ _ _ (⟨_, Op.indexAddr _ _ _, _, _, _, none⟩ :: _) _ _; refine SW.st (st_indexN rfl rfl (by assumption) (by omega)) rfl ?_)
      | (show SW _ _ _ _ (⟨_, Op.call ⟨.builtin .len, _, _⟩, _, _, _, none⟩ :: _) _ _; refine SW.st (st_len rfl) rfl ?_)
      | (show SW _ _ _ _ (⟨_, Op.call ⟨.builtin .cap, _, _⟩, _, _, _, none⟩ :: _) _ _; refine SW.st (st_cap rfl) rfl ?_)
      | (show SW _ _ _ _ (⟨_, Op.call ⟨.value (.func _), _, _⟩, _, _, _, none⟩ :: _) _ _; (refine SW.call rfl rfl (in_ans _ _ _ _ _ _ hn') ?_; intro v w1 hw1 hv; subst hv; replace hw := Ext.trans hw hw1; clear hw1)))
    all_goals first | (exfalso; omega) | skip
    all_goals
      refine Post.ret2 rfl rfl rfl ⟨_, rfl, hw, ?_⟩
      unfold MoveOut
      rw [if_neg hx]

set_option maxHeartbeats 4000000 in
theorem MoveOf_ans (A : Option Addr) (n c : Nat) (l : List Int) (x y z : Int) (w : World) (hl : Sl w 1 encI A n l) (hn : n * 8 ≤ 140737488355328) :
    Ans Try.prog 32 [.slice A n c, .int .i64 x, .int .i64 y, .int .i64 z] w (MoveOut w.heap.size n l x y z) := by
  refine ans_of Try.func32 rfl Try.ntmps32 rfl ?_
  have hw := Ext.refl w
  have hn' : n ≤ 2305843009213693952 := by omega
  by_cases hx : 0 ≤ x ∧ 0 ≤ y ∧ 0 ≤ z ∧ x + z ≤ n ∧ y + z ≤ n
  · obtain ⟨h1, h2, h3, h4, h5⟩ := id hx
    obtain ⟨t, rfl⟩ := Int.eq_ofNat_of_zero_le h1
    obtain ⟨f, rfl⟩ := Int.eq_ofNat_of_zero_le h2
    obtain ⟨k, rfl⟩ := Int.eq_ofNat_of_zero_le h3
    have hll := hl.len
    have hA := hl.base
    repeat' (first
      | (show CW _ _ _ _ _ _; first | refine CW.seq ?_ | refine CW.region ?_ | refine CW.block ?_ | refine CW.condtr rfl (by with_reducible rfl) ?_ | refine CW.condfr rfl (by with_reducible rfl) ?_ | refine CW.condd_t rfl (by omega) ?_ | refine CW.condd_f rfl (by omega) ?_ | refine CW.condn_t rfl (by omega) ?_ | refine CW.condn_f rfl (by omega) ?_ | refine CW.condd rfl (fun h => ?_) (fun h => ?_) | refine CW.condn rfl (fun h => ?_) (fun h => ?_) | refine CW.condt rfl ?_ | refine CW.condf rfl ?_ | refine CW.cond rfl (fun h => ?_) (fun h => ?_) | refine CW.skip ?_ | refine CW.ret ?_ | refine CW.exit ?_)
      | (show Post _ _ _ _ _; first | refine Post.seq ?_ | refine Post.seq_ret ?_ | refine Post.seq_exit ?_ | refine Post.hit ?_ | refine Post.pass rfl ?_ | refine Post.blk ?_ | refine Post.blk_ret ?_ | refine Post.again_exit ?_ | refine Post.again_ret ?_ | refine Post.np ?_)
      | refine SW.nil ?_
      | (show SW _ _ _ _ (⟨_, _, _, _, _, some _⟩ :: _) _ _; first | refine SW.want_t rfl rfl (by with_reducible rfl) ?_ | refine SW.want_f rfl rfl (by with_reducible rfl) ?_ | refine SW.skip_t rfl rfl (by with_reducible rfl) rfl ?_ | refine SW.skip_f rfl rfl (by with_reducible rfl) rfl ?_ | refine SW.skip_u rfl rfl (by with_reducible rfl) rfl ?_ | refine SW.splitd_t rfl rfl rfl (by omega) ?_ | refine SW.splitd_f rfl rfl rfl (by omega) ?_ | refine SW.splitn_t rfl rfl rfl (by omega) ?_ | refine SW.splitn_f rfl rfl rfl (by omega) ?_ | refine SW.splitd rfl rfl rfl (fun h => ?_) (fun h => ?_) | refine SW.splitn rfl rfl rfl (fun h => ?_) (fun h => ?_) | refine SW.want rfl rfl ?_ | refine SW.skip rfl rfl rfl rfl ?_ | refine SW.skipu rfl rfl rfl ?_ | refine SW.split rfl rfl rfl (fun h => ?_) (fun h => ?_))
      | refine SW.pure rfl rfl ?_
      | (show SW _ _ _ _ (⟨_, Op.fieldAddr _ _ _, _, _, _, none⟩ :: _) _ _; refine SW.st (st_field rfl) rfl ?_)
      | (show SW _ _ _ _ (⟨_, Op.nilCheck _, _, _, _, none⟩ :: _) _ _; refine SW.st (st_nilCheck rfl) rfl ?_)
      | (show SW _ _ _ _ (⟨_, Op.build _ _, _, _, _, none⟩ :: _) _ _; refine SW.st (st_build rfl rfl) rfl ?_)
      | (show SW _ _ _ _ (⟨_, Op.binOp _ _ _ _ _, _, _, _, none⟩ :: _) _ _; first | refine SW.st (st_add rfl rfl (by omega) (by omega)) rfl ?_ | refine SW.st (st_sub rfl rfl (by omega) (by omega)) rfl ?_ | refine SW.st (st_mul rfl rfl (by omega) (by omega)) rfl ?_ | refine SW.st (st_quo rfl rfl (by omega) (by omega) (by omega)) rfl ?_ | refine SW.st (st_rem rfl rfl (by omega)) rfl ?_)
      | (show SW _ _ _ _ (⟨_, Op.indexAddr _ _ _, _, _, _, none⟩ :: _) _ _; refine SW.st (st_indexN rfl rfl (by assumption) (by omega)) rfl ?_)
      | (show SW _ _ _ _ (⟨_, Op.call ⟨.builtin .len, _, _⟩, _, _, _, none⟩ :: _) _ _; refine SW.st (st_len rfl) rfl ?_)
      | (show SW _ _ _ _ (⟨_, Op.call ⟨.builtin .cap, _, _⟩, _, _, _, none⟩ :: _) _ _; refine SW.st (st_cap rfl) rfl ?_)
      | (show SW _ _ _ _ (⟨_, Op.call ⟨.value (.func _), _, _⟩, _, _, _, none⟩ :: _) _ _; (refine SW.call rfl rfl (there_ans _ _ _ _ _ _ hn') ?_; intro v w1 hw1 hv; subst hv; replace hw := Ext.trans hw hw1; clear hw1)))
    all_goals first | (exfalso; omega) | skip
    refine SW.call rfl rfl (words_ans _ _ _ _ _ (hl.ext hw) hn) fun v w1 hw1 hv => ?_
    obtain ⟨A1, c1, rfl, hO⟩ := hv
    replace hO := hO.low hw.size
    replace hw := Ext.trans hw hw1
    repeat' (first
      | (show CW _ _ _ _ _ _; first | refine CW.seq ?_ | refine CW.region ?_ | refine CW.block ?_ | refine CW.condtr rfl (by with_reducible rfl) ?_ | refine CW.condfr rfl (by with_reducible rfl) ?_ | refine CW.condd_t rfl (by omega) ?_ | refine CW.condd_f rfl (by omega) ?_ | refine CW.condn_t rfl (by omega) ?_ | refine CW.condn_f rfl (by omega) ?_ | refine CW.condd rfl (fun h => ?_) (fun h => ?_) | refine CW.condn rfl (fun h => ?_) (fun h => ?_) | refine CW.condt rfl ?_ | refine CW.condf rfl ?_ | refine CW.cond rfl (fun h => ?_) (fun h => ?_) | refine CW.skip ?_ | refine CW.ret ?_ | refine CW.exit ?_)
      | (show Post _ _ _ _ _; first | refine Post.seq ?_ | refine Post.seq_ret ?_ | refine Post.seq_exit ?_ | refine Post.hit ?_ | refine Post.pass rfl ?_ | refine Post.blk ?_ | refine Post.blk_ret ?_ | refine Post.again_exit ?_ | refine Post.again_ret ?_ | refine Post.np ?_)
      | refine SW.nil ?_
      | (show SW _ _ _ _ (⟨_, _, _, _, _, some _⟩ :: _) _ _; first | refine SW.want_t rfl rfl (by with_reducible rfl) ?_ | refine SW.want_f rfl rfl (by with_reducible rfl) ?_ | refine SW.skip_t rfl rfl (by with_reducible rfl) rfl ?_ | refine SW.skip_f rfl rfl (by with_reducible rfl) rfl ?_ | refine SW.skip_u rfl rfl (by with_reducible rfl) rfl ?_ | refine SW.splitd_t rfl rfl rfl (by omega) ?_ | refine SW.splitd_f rfl rfl rfl (by omega) ?_ | refine SW.splitn_t rfl rfl rfl (by omega) ?_ | refine SW.splitn_f rfl rfl rfl (by omega) ?_ | refine SW.splitd rfl rfl rfl (fun h => ?_) (fun h => ?_) | refine SW.splitn rfl rfl rfl (fun h => ?_) (fun h => ?_) | refine SW.want rfl rfl ?_ | refine SW.skip rfl rfl rfl rfl ?_ | refine SW.skipu rfl rfl rfl ?_ | refine SW.split rfl rfl rfl (fun h => ?_) (fun h => ?_))
      | refine SW.pure rfl rfl ?_
      | (show SW _ _ _ _ (⟨_, Op.fieldAddr _ _ _, _, _, _, none⟩ :: _) _ _; refine SW.st (st_field rfl) rfl ?_)
      | (show SW _ _ _ _ (⟨_, Op.nilCheck _, _, _, _, none⟩ :: _) _ _; refine SW.st (st_nilCheck rfl) rfl ?_)
      | (show SW _ _ _ _ (⟨_, Op.build _ _, _, _, _, none⟩ :: _) _ _; refine SW.st (st_build rfl rfl) rfl ?_)
      | (show SW _ _ _ _ (⟨_, Op.binOp _ _ _ _ _, _, _, _, none⟩ :: _) _ _; first | refine SW.st (st_add rfl rfl (by omega) (by omega)) rfl ?_ | refine SW.st (st_sub rfl rfl (by omega) (by omega)) rfl ?_ | refine SW.st (st_mul rfl rfl (by omega) (by omega)) rfl ?_ | refine SW.st (st_quo rfl rfl (by omega) (by omega) (by omega)) rfl ?_ | refine SW.st (st_rem rfl rfl (by omega)) rfl ?_)
      | (show SW _ _ _ _ (⟨_, Op.indexAddr _ _ _, _, _, _, none⟩ :: _) _ _; refine SW.st (st_indexN rfl rfl (by assumption) (by omega)) rfl ?_)
      | (show SW _ _ _ _ (⟨_, Op.call ⟨.builtin .len, _, _⟩, _, _, _, none⟩ :: _) _ _; refine SW.st (st_len rfl) rfl ?_)
      | (show SW _ _ _ _ (⟨_, Op.call ⟨.builtin .cap, _, _⟩, _, _, _, none⟩ :: _) _ _; refine SW.st (st_cap rfl) rfl ?_))
    refine CW.loop (fun i : Nat => [(0, .slice A n c), (1, .int .i64 (t : Int)), (2, .int .i64 (f : Int)), (3, .int .i64 (k : Int)), (10, .slice A1 n c1), (11, .int .i64 (i : Int))]) (fun i w' => i ≤ k ∧ Ext w w' ∧ Own w' w.heap.size 3 1 encI A1 n c1 (moved l t f i)) (fun i => k - i) 0
      ⟨rfl, rfl, rfl, rfl, rfl, rfl, trivial⟩ ⟨by omega, hw, by simpa [moved] using hO⟩ ?_
    clear hw hO hw1
    rintro i w' ⟨hi, hw, hO⟩
    have hA1 := hO.sl.base
    by_cases hik : i < k
    · have hf : f + i < n := by omega
      repeat' (first
        | (show CW _ _ _ _ _ _; first | refine CW.seq ?_ | refine CW.region ?_ | refine CW.block ?_ | refine CW.condtr rfl (by with_reducible rfl) ?_ | refine CW.condfr rfl (by with_reducible rfl) ?_ | refine CW.condd_t rfl (by omega) ?_ | refine CW.condd_f rfl (by omega) ?_ | refine CW.condn_t rfl (by omega) ?_ | refine CW.condn_f rfl (by omega) ?_ | refine CW.condd rfl (fun h => ?_) (fun h => ?_) | refine CW.condn rfl (fun h => ?_) (fun h => ?_) | refine CW.condt rfl ?_ | refine CW.condf rfl ?_ | refine CW.cond rfl (fun h => ?_) (fun h => ?_) | refine CW.skip ?_ | refine CW.ret ?_ | refine CW.exit ?_)
        | (show Post _ _ _ _ _; first | refine Post.seq ?_ | refine Post.seq_ret ?_ | refine Post.seq_exit ?_ | refine Post.hit ?_ | refine Post.pass rfl ?_ | refine Post.blk ?_ | refine Post.blk_ret ?_ | refine Post.again_exit ?_ | refine Post.again_ret ?_ | refine Post.np ?_)
        | refine SW.nil ?_
        | (show SW _ _ _ _ (⟨_, _, _, _, _, some _⟩ :: _) _ _; first | refine SW.want_t rfl rfl (by with_reducible rfl) ?_ | refine SW.want_f rfl rfl (by with_reducible rfl) ?_ | refine SW.skip_t rfl rfl (by with_reducible rfl) rfl ?_ | refine SW.skip_f rfl rfl (by with_reducible rfl) rfl ?_ | refine SW.skip_u rfl rfl (by with_reducible rfl) rfl ?_ | refine SW.splitd_t rfl rfl rfl (by omega) ?_ | refine SW.splitd_f rfl rfl rfl (by omega) ?_ | refine SW.splitn_t rfl rfl rfl (by omega) ?_ | refine SW.splitn_f rfl rfl rfl (by omega) ?_ | refine SW.splitd rfl rfl rfl (fun h => ?_) (fun h => ?_) | refine SW.splitn rfl rfl rfl (fun h => ?_) (fun h => ?_) | refine SW.want rfl rfl ?_ | refine SW.skip rfl rfl rfl rfl ?_ | refine SW.skipu rfl rfl rfl ?_ | refine SW.split rfl rfl rfl (fun h => ?_) (fun h => ?_))
        | refine SW.pure rfl rfl ?_
        | (show SW _ _ _ _ (⟨_, Op.fieldAddr _ _ _, _, _, _, none⟩ :: _) _ _; refine SW.st (st_field rfl) rfl ?_)
        | (show SW _ _ _ _ (⟨_, Op.nilCheck _, _, _, _, none⟩ :: _) _ _; refine SW.st (st_nilCheck rfl) rfl ?_)
        | (show SW _ _ _ _ (⟨_, Op.build _ _, _, _, _, none⟩ :: _) _ _; refine SW.st (st_build rfl rfl) rfl ?_)
        | (show SW _ _ _ _ (⟨_, Op.binOp _ _ _ _ _, _, _, _, none⟩ :: _) _ _; first | refine SW.st (st_add rfl rfl (by omega) (by omega)) rfl ?_ | refine SW.st (st_sub rfl rfl (by omega) (by omega)) rfl ?_ | refine SW.st (st_mul rfl rfl (by omega) (by omega)) rfl ?_ | refine SW.st (st_quo rfl rfl (by omega) (by omega) (by omega)) rfl ?_ | refine SW.st (st_rem rfl rfl (by omega)) rfl ?_)
        | (show SW _ _ _ _ (⟨_, Op.indexAddr _ _ _, _, _, _, none⟩ :: _) _ _; first | refine SW.st (st_indexN rfl rfl (by assumption) (by omega)) rfl ?_ | refine SW.st (st_indexI (f + i) rfl rfl (by assumption) (by omega) (by omega)) rfl ?_ | refine SW.st (st_indexI (t + i) rfl rfl (by assumption) (by omega) (by omega)) rfl ?_)
        | (show SW _ _ _ _ (⟨_, Op.call ⟨.builtin .len, _, _⟩, _, _, _, none⟩ :: _) _ _; refine SW.st (st_len rfl) rfl ?_)
        | (show SW _ _ _ _ (⟨_, Op.call ⟨.builtin .cap, _, _⟩, _, _, _, none⟩ :: _) _ _; refine SW.st (st_cap rfl) rfl ?_)
        | (show SW _ _ _ _ (⟨_, Op.load _ _, _, _, _, none⟩ :: _) _ _; first | refine SW.st (st_load rfl (hl.one hf rfl)) rfl ?_ | refine SW.st (st_loadx hw rfl (hl.one hf rfl)) rfl ?_))
      refine SW.storeI (t + i) hO rfl rfl (by omega) fun w2 hO2 hg => ?_
      replace hw := ext_grown hw hg (Nat.le_refl _) hO.row_ge
      rw [moved_succ (by omega) (by omega)] at hO2
      repeat' (first
        | (show CW _ _ _ _ _ _; first | refine CW.seq ?_ | refine CW.region ?_ | refine CW.block ?_ | refine CW.condtr rfl (by with_reducible rfl) ?_ | refine CW.condfr rfl (by with_reducible rfl) ?_ | refine CW.condd_t rfl (by omega) ?_ | refine CW.condd_f rfl (by omega) ?_ | refine CW.condn_t rfl (by omega) ?_ | refine CW.condn_f rfl (by omega) ?_ | refine CW.condd rfl (fun h => ?_) (fun h => ?_) | refine CW.condn rfl (fun h => ?_) (fun h => ?_) | refine CW.condt rfl ?_ | refine CW.condf rfl ?_ | refine CW.cond rfl (fun h => ?_) (fun h => ?_) | refine CW.skip ?_ | refine CW.ret ?_ | refine CW.exit ?_)
        | (show Post _ _ _ _ _; first | refine Post.seq ?_ | refine Post.seq_ret ?_ | refine Post.seq_exit ?_ | refine Post.hit ?_ | refine Post.pass rfl ?_ | refine Post.blk ?_ | refine Post.blk_ret ?_ | refine Post.again_exit ?_ | refine Post.again_ret ?_ | refine Post.np ?_)
        | refine SW.nil ?_
        | (show SW _ _ _ _ (⟨_, _, _, _, _, some _⟩ :: _) _ _; first | refine SW.want_t rfl rfl (by with_reducible rfl) ?_ | refine SW.want_f rfl rfl (by with_reducible rfl) ?_ | refine SW.skip_t rfl rfl (by with_reducible rfl) rfl ?_ | refine SW.skip_f rfl rfl (by with_reducible rfl) rfl ?_ | refine SW.skip_u rfl rfl (by with_reducible rfl) rfl ?_ | refine SW.splitd_t rfl rfl rfl (by omega) ?_ | refine SW.splitd_f rfl rfl rfl (by omega) ?_ | refine SW.splitn_t rfl rfl rfl (by omega) ?_ | refine SW.splitn_f rfl rfl rfl (by omega) ?_ | refine SW.splitd rfl rfl rfl (fun h => ?_) (fun h => ?_) | refine SW.splitn rfl rfl rfl (fun h => ?_) (fun h => ?_) | refine SW.want rfl rfl ?_ | refine SW.skip rfl rfl rfl rfl ?_ | refine SW.skipu rfl rfl rfl ?_ | refine SW.split rfl rfl rfl (fun h => ?_) (fun h => ?_))
        | refine SW.pure rfl rfl ?_
        | (show SW _ _ _ _ (⟨_, Op.fieldAddr _ _ _, _, _, _, none⟩ :: _) _ _; refine SW.st (st_field rfl) rfl ?_)
        | (show SW _ _ _ _ (⟨_, Op.nilCheck _, _, _, _, none⟩ :: _) _ _; refine SW.st (st_nilCheck rfl) rfl ?_)
        | (show SW _ _ _ _ (⟨_, Op.build _ _, _, _, _, none⟩ :: _) _ _; refine SW.st (st_build rfl rfl) rfl ?_)
        | (show SW _ _ _ _ (⟨_, Op.binOp _ _ _ _ _, _, _, _, none⟩ :: _) _ _; first | refine SW.st (st_add rfl rfl (by omega) (by omega)) rfl ?_ | refine SW.st (st_sub rfl rfl (by omega) (by omega)) rfl ?_ | refine SW.st (st_mul rfl rfl (by omega) (by omega)) rfl ?_ | refine SW.st (st_quo rfl rfl (by omega) (by omega) (by omega)) rfl ?_ | refine SW.st (st_rem rfl rfl (by omega)) rfl ?_)
        | (show SW _ _ _ _ (⟨_, Op.indexAddr _ _ _, _, _, _, none⟩ :: _) _ _; refine SW.st (st_indexN rfl rfl (by assumption) (by omega)) rfl ?_)
        | (show SW _ _ _ _ (⟨_, Op.call ⟨.builtin .len, _, _⟩, _, _, _, none⟩ :: _) _ _; refine SW.st (st_len rfl) rfl ?_)
        | (show SW _ _ _ _ (⟨_, Op.call ⟨.builtin .cap, _, _⟩, _, _, _, none⟩ :: _) _ _; refine SW.st (st_cap rfl) rfl ?_))
      exact Post.again (i + 1) ⟨rfl, rfl, rfl, rfl, rfl, rfl, trivial⟩ (by omega) ⟨by omega, hw, hO2⟩
    · obtain rfl : i = k := by omega
      repeat' (first
        | (show CW _ _ _ _ _ _; first | refine CW.seq ?_ | refine CW.region ?_ | refine CW.block ?_ | refine CW.condtr rfl (by with_reducible rfl) ?_ | refine CW.condfr rfl (by with_reducible rfl) ?_ | refine CW.condd_t rfl (by omega) ?_ | refine CW.condd_f rfl (by omega) ?_ | refine CW.condn_t rfl (by omega) ?_ | refine CW.condn_f rfl (by omega) ?_ | refine CW.condd rfl (fun h => ?_) (fun h => ?_) | refine CW.condn rfl (fun h => ?_) (fun h => ?_) | refine CW.condt rfl ?_ | refine CW.condf rfl ?_ | refine CW.cond rfl (fun h => ?_) (fun h => ?_) | refine CW.skip ?_ | refine CW.ret ?_ | refine CW.exit ?_)
        | (show Post _ _ _ _ _; first | refine Post.seq ?_ | refine Post.seq_ret ?_ | refine Post.seq_exit ?_ | refine Post.hit ?_ | refine Post.pass rfl ?_ | refine Post.blk ?_ | refine Post.blk_ret ?_ | refine Post.again_exit ?_ | refine Post.again_ret ?_ | refine Post.np ?_)
        | refine SW.nil ?_
        | (show SW _ _ _ _ (⟨_, _, _, _, _, some _⟩ :: _) _ _; first | refine SW.want_t rfl rfl (by with_reducible rfl) ?_ | refine SW.want_f rfl rfl (by with_reducible rfl) ?_ | refine SW.skip_t rfl rfl (by with_reducible rfl) rfl ?_ | refine SW.skip_f rfl rfl (by with_reducible rfl) rfl ?_ | refine SW.skip_u rfl rfl (by with_reducible rfl) rfl ?_ | refine SW.splitd_t rfl rfl rfl (by omega) ?_ | refine SW.splitd_f rfl rfl rfl (by omega) ?_ | refine SW.splitn_t rfl rfl rfl (by omega) ?_ | refine SW.splitn_f rfl rfl rfl (by omega) ?_ | refine SW.splitd rfl rfl rfl (fun h => ?_) (fun h => ?_) | refine SW.splitn rfl rfl rfl (fun h => ?_) (fun h => ?_) | refine SW.want rfl rfl ?_ | refine SW.skip rfl rfl rfl rfl ?_ | refine SW.skipu rfl rfl rfl ?_ | refine SW.split rfl rfl rfl (fun h => ?_) (fun h => ?_))
        | refine SW.pure rfl rfl ?_
        | (show SW _ _ _ _ (⟨_, Op.fieldAddr _ _ _, _, _, _, none⟩ :: _) _ _; refine SW.st (st_field rfl) rfl ?_)
        | (show SW _ _ _ _ (⟨_, Op.nilCheck _, _, _, _, none⟩ :: _) _ _; refine SW.st (st_nilCheck rfl) rfl ?_)
        | (show SW _ _ _ _ (⟨_, Op.build _ _, _, _, _, none⟩ :: _) _ _; refine SW.st (st_build rfl rfl) rfl ?_)
        | (show SW _ _ _ _ (⟨_, Op.binOp _ _ _ _ _, _, _, _, none⟩ :: _) _ _; first | refine SW.st (st_add rfl rfl (by omega) (by omega)) rfl ?_ | refine SW.st (st_sub rfl rfl (by omega) (by omega)) rfl ?_ | refine SW.st (st_mul rfl rfl (by omega) (by omega)) rfl ?_ | refine SW.st (st_quo rfl rfl (by omega) (by omega) (by omega)) rfl ?_ | refine SW.st (st_rem rfl rfl (by omega)) rfl ?_)
        | (show SW _ _ _ _ (⟨_, Op.indexAddr _ _ _, _, _, _, none⟩ :: _) _ _; refine SW.st (st_indexN rfl rfl (by assumption) (by omega)) rfl ?_)
        | (show SW _ _ _ _ (⟨_, Op.call ⟨.builtin .len, _, _⟩, _, _, _, none⟩ :: _) _ _; refine SW.st (st_len rfl) rfl ?_)
        | (show SW _ _ _ _ (⟨_, Op.call ⟨.builtin .cap, _, _⟩, _, _, _, none⟩ :: _) _ _; refine SW.st (st_cap rfl) rfl ?_))
      refine Post.ret2 rfl rfl rfl ⟨_, rfl, hw, ?_⟩
      unfold MoveOut
      rw [if_pos hx]
      exact ⟨A1, c1, rfl, hO⟩
  · repeat' (first
      | (show CW _ _ _ _ _ _; first | refine CW.seq ?_ | refine CW.region ?_ | refine CW.block ?_ | refine CW.condtr rfl (by with_reducible rfl) ?_ | refine CW.condfr rfl (by with_reducible rfl) ?_ | refine CW.condd_t rfl (by omega) ?_ | refine CW.condd_f rfl (by omega) ?_ | refine CW.condn_t rfl (by omega) ?_ | refine CW.condn_f rfl (by omega) ?_ | refine CW.condd rfl (fun h => ?_) (fun h => ?_) | refine CW.condn rfl (fun h => ?_) (fun h => ?_) | refine CW.condt rfl ?_ | refine CW.condf rfl ?_ | refine CW.cond rfl (fun h => ?_) (fun h => ?_) | refine CW.skip ?_ | refine CW.ret ?_ | refine CW.exit ?_)
      | (show Post _ _ _ _ _; first | refine Post.seq ?_ | refine Post.seq_ret ?_ | refine Post.seq_exit ?_ | refine Post.hit ?_ | refine Post.pass rfl ?_ | refine Post.blk ?_ | refine Post.blk_ret ?_ | refine Post.again_exit ?_ | refine Post.again_ret ?_ | refine Post.np ?_)
      | refine SW.nil ?_
      | (show SW _ _ _ _ (⟨_, _, _, _, _, some _⟩ :: _) _ _; first | refine SW.want_t rfl rfl (by with_reducible rfl) ?_ | refine SW.want_f rfl rfl (by with_reducible rfl) ?_ | refine SW.skip_t rfl rfl (by with_reducible rfl) rfl ?_ | refine SW.skip_f rfl rfl (by with_reducible rfl) rfl ?_ | refine SW.skip_u rfl rfl (by with_reducible rfl) rfl ?_ | refine SW.splitd_t rfl rfl rfl (by omega) ?_ | refine SW.splitd_f rfl rfl rfl (by omega) ?_ | refine SW.splitn_t rfl rfl rfl (by omega) ?_ | refine SW.splitn_f rfl rfl rfl (by omega) ?_ | refine SW.splitd rfl rfl rfl (fun h => ?_) (fun h => ?_) | refine SW.splitn rfl rfl rfl (fun h => ?_) (fun h => ?_) | refine SW.want rfl rfl ?_ | refine SW.skip rfl rfl rfl rfl ?_ | refine SW.skipu rfl rfl rfl ?_ | refine SW.split rfl rfl rfl (fun h => ?_) (fun h => ?_))
      | refine SW.pure rfl rfl ?_
      | (show SW _ _ _ _ (⟨_, Op.fieldAddr _ _ _, _, _, _, none⟩ :: _) _ _; refine SW.st (st_field rfl) rfl ?_)
      | (show SW _ _ _ _ (⟨_, Op.nilCheck _, _, _, _, none⟩ :: _) _ _; refine SW.st (st_nilCheck rfl) rfl ?_)
      | (show SW _ _ _ _ (⟨_, Op.build _ _, _, _, _, none⟩ :: _) _ _; refine SW.st (st_build rfl rfl) rfl ?_)
      | (show SW _ _ _ _ (⟨_, Op.binOp _ _ _ _ _, _, _, _, none⟩ :: _) _ _; first | refine SW.st (st_add rfl rfl (by omega) (by omega)) rfl ?_ | refine SW.st (st_sub rfl rfl (by omega) (by omega)) rfl ?_ | refine SW.st (st_mul rfl rfl (by omega) (by omega)) rfl ?_ | refine SW.st (st_quo rfl rfl (by omega) (by omega) (by omega)) rfl ?_ | refine SW.st (st_rem rfl rfl (by omega)) rfl ?_)
      | (show SW _ _ _ _ (⟨_, Op.indexAddr _ _ _, _, _, _, none⟩ :: _) _ _; refine SW.st (st_indexN rfl rfl (by assumption) (by omega)) rfl ?_)
      | (show SW _ _ _ _ (⟨_, Op.call ⟨.builtin .len, _, _⟩, _, _, _, none⟩ :: _) _ _; refine SW.st (st_len rfl) rfl ?_)
      | (show SW _ _ _ _ (⟨_, Op.call ⟨.builtin .cap, _, _⟩, _, _, _, none⟩ :: _) _ _; refine SW.st (st_cap rfl) rfl ?_)
      | (show SW _ _ _ _ (⟨_, Op.call ⟨.value (.func _), _, _⟩, _, _, _, none⟩ :: _) _ _; (refine SW.call rfl rfl (there_ans _ _ _ _ _ _ hn') ?_; intro v w1 hw1 hv; subst hv; replace hw := Ext.trans hw hw1; clear hw1)))
    all_goals first | (exfalso; omega) | skip
    all_goals
      refine Post.ret2 rfl rfl rfl ⟨_, rfl, hw, ?_⟩
      unfold MoveOut
      rw [if_neg hx]

theorem ramMoves_ans (A : Option Addr) (n c : Nat) (l : List Int) (x y z : Int) (w : World) (hl : Sl w 1 encI A n l) (hn : n * 8 ≤ 140737488355328) :
    Ans Try.prog 11 [.slice A n c, .int .i64 x, .int .i64 y, .int .i64 z] w fun v _ => v = .bool true := by
  refine ans_of Try.func11 rfl Try.ntmps11 rfl ?_
  have hw := Ext.refl w
  have hll := hl.len
  repeat' (first
    | (show CW _ _ _ _ _ _; first | refine CW.seq ?_ | refine CW.region ?_ | refine CW.block ?_ | refine CW.condtr rfl (by with_reducible rfl) ?_ | refine CW.condfr rfl (by with_reducible rfl) ?_ | refine CW.condd_t rfl (by omega) ?_ | refine CW.condd_f rfl (by omega) ?_ | refine CW.condn_t rfl (by omega) ?_ | refine CW.condn_f rfl (by omega) ?_ | refine CW.condd rfl (fun h => ?_) (fun h => ?_) | refine CW.condn rfl (fun h => ?_) (fun h => ?_) | refine CW.condt rfl ?_ | refine CW.condf rfl ?_ | refine CW.cond rfl (fun h => ?_) (fun h => ?_) | refine CW.skip ?_ | refine CW.ret ?_ | refine CW.exit ?_)
    | (show Post _ _ _ _ _; first | refine Post.seq ?_ | refine Post.seq_ret ?_ | refine Post.seq_exit ?_ | refine Post.hit ?_ | refine Post.pass rfl ?_ | refine Post.blk ?_ | refine Post.blk_ret ?_ | refine Post.again_exit ?_ | refine Post.again_ret ?_ | refine Post.np ?_)
    | refine SW.nil ?_
    | (show SW _ _ _ _ (⟨_, _, _, _, _, some _⟩ :: _) _ _; first | refine SW.want_t rfl rfl (by with_reducible rfl) ?_ | refine SW.want_f rfl rfl (by with_reducible rfl) ?_ | refine SW.skip_t rfl rfl (by with_reducible rfl) rfl ?_ | refine SW.skip_f rfl rfl (by with_reducible rfl) rfl ?_ | refine SW.skip_u rfl rfl (by with_reducible rfl) rfl ?_ | refine SW.splitd_t rfl rfl rfl (by omega) ?_ | refine SW.splitd_f rfl rfl rfl (by omega) ?_ | refine SW.splitn_t rfl rfl rfl (by omega) ?_ | refine SW.splitn_f rfl rfl rfl (by omega) ?_ | refine SW.splitd rfl rfl rfl (fun h => ?_) (fun h => ?_) | refine SW.splitn rfl rfl rfl (fun h => ?_) (fun h => ?_) | refine SW.want rfl rfl ?_ | refine SW.skip rfl rfl rfl rfl ?_ | refine SW.skipu rfl rfl rfl ?_ | refine SW.split rfl rfl rfl (fun h => ?_) (fun h => ?_))
    | refine SW.pure rfl rfl ?_
    | (show SW _ _ _ _ (⟨_, Op.fieldAddr _ _ _, _, _, _, none⟩ :: _) _ _; refine SW.st (st_field rfl) rfl ?_)
    | (show SW _ _ _ _ (⟨_, Op.nilCheck _, _, _, _, none⟩ :: _) _ _; refine SW.st (st_nilCheck rfl) rfl ?_)
    | (show SW _ _ _ _ (⟨_, Op.build _ _, _, _, _, none⟩ :: _) _ _; refine SW.st (st_build rfl rfl) rfl ?_)
    | (show SW _ _ _ _ (⟨_, Op.binOp _ _ _ _ _, _, _, _, none⟩ :: _) _ _; first | refine SW.st (st_add rfl rfl (by omega) (by omega)) rfl ?_ | refine SW.st (st_sub rfl rfl (by omega) (by omega)) rfl ?_ | refine SW.st (st_mul rfl rfl (by omega) (by omega)) rfl ?_ | refine SW.st (st_quo rfl rfl (by omega) (by omega) (by omega)) rfl ?_ | refine SW.st (st_rem rfl rfl (by omega)) rfl ?_)
    | (show SW _ _ _ _ (⟨_, Op.indexAddr _ _ _, _, _, _, none⟩ :: _) _ _; refine SW.st (st_indexN rfl rfl (by assumption) (by omega)) rfl ?_)
    | (show SW _ _ _ _ (⟨_, Op.call ⟨.builtin .len, _, _⟩, _, _, _, none⟩ :: _) _ _; refine SW.st (st_len rfl) rfl ?_)
    | (show SW _ _ _ _ (⟨_, Op.call ⟨.builtin .cap, _, _⟩, _, _, _, none⟩ :: _) _ _; refine SW.st (st_cap rfl) rfl ?_))
  refine SW.call rfl rfl (ints_ans _ _ _ _ _ hl hn) fun v w1 hw1 hv => ?_
  obtain ⟨A1, c1, rfl, hK⟩ := hv
  replace hw := Ext.trans hw hw1
  repeat' (first
    | (show CW _ _ _ _ _ _; first | refine CW.seq ?_ | refine CW.region ?_ | refine CW.block ?_ | refine CW.condtr rfl (by with_reducible rfl) ?_ | refine CW.condfr rfl (by with_reducible rfl) ?_ | refine CW.condd_t rfl (by omega) ?_ | refine CW.condd_f rfl (by omega) ?_ | refine CW.condn_t rfl (by omega) ?_ | refine CW.condn_f rfl (by omega) ?_ | refine CW.condd rfl (fun h => ?_) (fun h => ?_) | refine CW.condn rfl (fun h => ?_) (fun h => ?_) | refine CW.condt rfl ?_ | refine CW.condf rfl ?_ | refine CW.cond rfl (fun h => ?_) (fun h => ?_) | refine CW.skip ?_ | refine CW.ret ?_ | refine CW.exit ?_)
    | (show Post _ _ _ _ _; first | refine Post.seq ?_ | refine Post.seq_ret ?_ | refine Post.seq_exit ?_ | refine Post.hit ?_ | refine Post.pass rfl ?_ | refine Post.blk ?_ | refine Post.blk_ret ?_ | refine Post.again_exit ?_ | refine Post.again_ret ?_ | refine Post.np ?_)
    | refine SW.nil ?_
    | (show SW _ _ _ _ (⟨_, _, _, _, _, some _⟩ :: _) _ _; first | refine SW.want_t rfl rfl (by with_reducible rfl) ?_ | refine SW.want_f rfl rfl (by with_reducible rfl) ?_ | refine SW.skip_t rfl rfl (by with_reducible rfl) rfl ?_ | refine SW.skip_f rfl rfl (by with_reducible rfl) rfl ?_ | refine SW.skip_u rfl rfl (by with_reducible rfl) rfl ?_ | refine SW.splitd_t rfl rfl rfl (by omega) ?_ | refine SW.splitd_f rfl rfl rfl (by omega) ?_ | refine SW.splitn_t rfl rfl rfl (by omega) ?_ | refine SW.splitn_f rfl rfl rfl (by omega) ?_ | refine SW.splitd rfl rfl rfl (fun h => ?_) (fun h => ?_) | refine SW.splitn rfl rfl rfl (fun h => ?_) (fun h => ?_) | refine SW.want rfl rfl ?_ | refine SW.skip rfl rfl rfl rfl ?_ | refine SW.skipu rfl rfl rfl ?_ | refine SW.split rfl rfl rfl (fun h => ?_) (fun h => ?_))
    | refine SW.pure rfl rfl ?_
    | (show SW _ _ _ _ (⟨_, Op.fieldAddr _ _ _, _, _, _, none⟩ :: _) _ _; refine SW.st (st_field rfl) rfl ?_)
    | (show SW _ _ _ _ (⟨_, Op.nilCheck _, _, _, _, none⟩ :: _) _ _; refine SW.st (st_nilCheck rfl) rfl ?_)
    | (show SW _ _ _ _ (⟨_, Op.build _ _, _, _, _, none⟩ :: _) _ _; refine SW.st (st_build rfl rfl) rfl ?_)
    | (show SW _ _ _ _ (⟨_, Op.binOp _ _ _ _ _, _, _, _, none⟩ :: _) _ _; first | refine SW.st (st_add rfl rfl (by omega) (by omega)) rfl ?_ | refine SW.st (st_sub rfl rfl (by omega) (by omega)) rfl ?_ | refine SW.st (st_mul rfl rfl (by omega) (by omega)) rfl ?_ | refine SW.st (st_quo rfl rfl (by omega) (by omega) (by omega)) rfl ?_ | refine SW.st (st_rem rfl rfl (by omega)) rfl ?_)
    | (show SW _ _ _ _ (⟨_, Op.indexAddr _ _ _, _, _, _, none⟩ :: _) _ _; refine SW.st (st_indexN rfl rfl (by assumption) (by omega)) rfl ?_)
    | (show SW _ _ _ _ (⟨_, Op.call ⟨.builtin .len, _, _⟩, _, _, _, none⟩ :: _) _ _; refine SW.st (st_len rfl) rfl ?_)
    | (show SW _ _ _ _ (⟨_, Op.call ⟨.builtin .cap, _, _⟩, _, _, _, none⟩ :: _) _ _; refine SW.st (st_cap rfl) rfl ?_))
  refine SW.call rfl rfl (Move_ans _ _ _ _ _ _ _ _ hK.sl hn hK.le.1) fun v w2 hw2 hv => ?_
  replace hw := Ext.trans hw hw2
  replace hK := hK.ext hw2
  by_cases hx : 0 ≤ x ∧ 0 ≤ y ∧ 0 ≤ z ∧ x + z ≤ n ∧ y + z ≤ n
  · unfold MoveOut at hv
    rw [if_pos hx] at hv
    obtain ⟨A2, c2, rfl, hO⟩ := hv
    repeat' (first
      | (show CW _ _ _ _ _ _; first | refine CW.seq ?_ | refine CW.region ?_ | refine CW.block ?_ | refine CW.condtr rfl (by with_reducible rfl) ?_ | refine CW.condfr rfl (by with_reducible rfl) ?_ | refine CW.condd_t rfl (by omega) ?_ | refine CW.condd_f rfl (by omega) ?_ | refine CW.condn_t rfl (by omega) ?_ | refine CW.condn_f rfl (by omega) ?_ | refine CW.condd rfl (fun h => ?_) (fun h => ?_) | refine CW.condn rfl (fun h => ?_) (fun h => ?_) | refine CW.condt rfl ?_ | refine CW.condf rfl ?_ | refine CW.cond rfl (fun h => ?_) (fun h => ?_) | refine CW.skip ?_ | refine CW.ret ?_ | refine CW.exit ?_)
      | (show Post _ _ _ _ _; first | refine Post.seq ?_ | refine Post.seq_ret ?_ | refine Post.seq_exit ?_ | refine Post.hit ?_ | refine Post.pass rfl ?_ | refine Post.blk ?_ | refine Post.blk_ret ?_ | refine Post.again_exit ?_ | refine Post.again_ret ?_ | refine Post.np ?_)
      | refine SW.nil ?_
      | (show SW _ _ _ _ (⟨_, _, _, _, _, some _⟩ :: _) _ _; first | refine SW.want_t rfl rfl (by with_reducible rfl) ?_ | refine SW.want_f rfl rfl (by with_reducible rfl) ?_ | refine SW.skip_t rfl rfl (by with_reducible rfl) rfl ?_ | refine SW.skip_f rfl rfl (by with_reducible rfl) rfl ?_ | refine SW.skip_u rfl rfl (by with_reducible rfl) rfl ?_ | refine SW.splitd_t rfl rfl rfl (by omega) ?_ | refine SW.splitd_f rfl rfl rfl (by omega) ?_ | refine SW.splitn_t rfl rfl rfl (by omega) ?_ | refine SW.splitn_f rfl rfl rfl (by omega) ?_ | refine SW.splitd rfl rfl rfl (fun h => ?_) (fun h => ?_) | refine SW.splitn rfl rfl rfl (fun h => ?_) (fun h => ?_) | refine SW.want rfl rfl ?_ | refine SW.skip rfl rfl rfl rfl ?_ | refine SW.skipu rfl rfl rfl ?_ | refine SW.split rfl rfl rfl (fun h => ?_) (fun h => ?_))
      | refine SW.pure rfl rfl ?_
      | (show SW _ _ _ _ (⟨_, Op.fieldAddr _ _ _, _, _, _, none⟩ :: _) _ _; refine SW.st (st_field rfl) rfl ?_)
      | (show SW _ _ _ _ (⟨_, Op.nilCheck _, _, _, _, none⟩ :: _) _ _; refine SW.st (st_nilCheck rfl) rfl ?_)
      | (show SW _ _ _ _ (⟨_, Op.build _ _, _, _, _, none⟩ :: _) _ _; refine SW.st (st_build rfl rfl) rfl ?_)
      | (show SW _ _ _ _ (⟨_, Op.binOp _ _ _ _ _, _, _, _, none⟩ :: _) _ _; first | refine SW.st (st_add rfl rfl (by omega) (by omega)) rfl ?_ | refine SW.st (st_sub rfl rfl (by omega) (by omega)) rfl ?_ | refine SW.st (st_mul rfl rfl (by omega) (by omega)) rfl ?_ | refine SW.st (st_quo rfl rfl (by omega) (by omega) (by omega)) rfl ?_ | refine SW.st (st_rem rfl rfl (by omega)) rfl ?_)
      | (show SW _ _ _ _ (⟨_, Op.indexAddr _ _ _, _, _, _, none⟩ :: _) _ _; refine SW.st (st_indexN rfl rfl (by assumption) (by omega)) rfl ?_)
      | (show SW _ _ _ _ (⟨_, Op.call ⟨.builtin .len, _, _⟩, _, _, _, none⟩ :: _) _ _; refine SW.st (st_len rfl) rfl ?_)
      | (show SW _ _ _ _ (⟨_, Op.call ⟨.builtin .cap, _, _⟩, _, _, _, none⟩ :: _) _ _; refine SW.st (st_cap rfl) rfl ?_))
    refine SW.call rfl rfl (MoveOf_ans _ _ _ _ _ _ _ _ (hl.ext hw) hn) fun v w3 hw3 hv => ?_
    replace hw := Ext.trans hw hw3
    replace hK := hK.ext hw3
    replace hO := hO.ext hw3
    unfold MoveOut at hv
    rw [if_pos hx] at hv
    obtain ⟨A3, c3, rfl, hO'⟩ := hv
    have s1 : ∀ w' (p q : List Int) (X Y : Option Addr) (a b m : Nat), p = q → Sl w' 1 encI X m p → Sl w' 1 encI Y m q → m ≤ 2305843009213693952 → Ans Try.prog 17 [.slice X m a, .slice Y m b] w' fun v _ => v = .bool true := fun w' p q X Y a b m e h1 h2 h3 => by
      have := sameInts_ans X Y m m a b p q w' h1 h2 h3
      simpa [e] using this
    repeat' (first
      | (show CW _ _ _ _ _ _; first | refine CW.seq ?_ | refine CW.region ?_ | refine CW.block ?_ | refine CW.condtr rfl (by with_reducible rfl) ?_ | refine CW.condfr rfl (by with_reducible rfl) ?_ | refine CW.condd_t rfl (by omega) ?_ | refine CW.condd_f rfl (by omega) ?_ | refine CW.condn_t rfl (by omega) ?_ | refine CW.condn_f rfl (by omega) ?_ | refine CW.condd rfl (fun h => ?_) (fun h => ?_) | refine CW.condn rfl (fun h => ?_) (fun h => ?_) | refine CW.condt rfl ?_ | refine CW.condf rfl ?_ | refine CW.cond rfl (fun h => ?_) (fun h => ?_) | refine CW.skip ?_ | refine CW.ret ?_ | refine CW.exit ?_)
      | (show Post _ _ _ _ _; first | refine Post.seq ?_ | refine Post.seq_ret ?_ | refine Post.seq_exit ?_ | refine Post.hit ?_ | refine Post.pass rfl ?_ | refine Post.blk ?_ | refine Post.blk_ret ?_ | refine Post.again_exit ?_ | refine Post.again_ret ?_ | refine Post.np ?_)
      | refine SW.nil ?_
      | (show SW _ _ _ _ (⟨_, _, _, _, _, some _⟩ :: _) _ _; first | refine SW.want_t rfl rfl (by with_reducible rfl) ?_ | refine SW.want_f rfl rfl (by with_reducible rfl) ?_ | refine SW.skip_t rfl rfl (by with_reducible rfl) rfl ?_ | refine SW.skip_f rfl rfl (by with_reducible rfl) rfl ?_ | refine SW.skip_u rfl rfl (by with_reducible rfl) rfl ?_ | refine SW.splitd_t rfl rfl rfl (by omega) ?_ | refine SW.splitd_f rfl rfl rfl (by omega) ?_ | refine SW.splitn_t rfl rfl rfl (by omega) ?_ | refine SW.splitn_f rfl rfl rfl (by omega) ?_ | refine SW.splitd rfl rfl rfl (fun h => ?_) (fun h => ?_) | refine SW.splitn rfl rfl rfl (fun h => ?_) (fun h => ?_) | refine SW.want rfl rfl ?_ | refine SW.skip rfl rfl rfl rfl ?_ | refine SW.skipu rfl rfl rfl ?_ | refine SW.split rfl rfl rfl (fun h => ?_) (fun h => ?_))
      | refine SW.pure rfl rfl ?_
      | (show SW _ _ _ _ (⟨_, Op.fieldAddr _ _ _, _, _, _, none⟩ :: _) _ _; refine SW.st (st_field rfl) rfl ?_)
      | (show SW _ _ _ _ (⟨_, Op.nilCheck _, _, _, _, none⟩ :: _) _ _; refine SW.st (st_nilCheck rfl) rfl ?_)
      | (show SW _ _ _ _ (⟨_, Op.build _ _, _, _, _, none⟩ :: _) _ _; refine SW.st (st_build rfl rfl) rfl ?_)
      | (show SW _ _ _ _ (⟨_, Op.binOp _ _ _ _ _, _, _, _, none⟩ :: _) _ _; first | refine SW.st (st_add rfl rfl (by omega) (by omega)) rfl ?_ | refine SW.st (st_sub rfl rfl (by omega) (by omega)) rfl ?_ | refine SW.st (st_mul rfl rfl (by omega) (by omega)) rfl ?_ | refine SW.st (st_quo rfl rfl (by omega) (by omega) (by omega)) rfl ?_ | refine SW.st (st_rem rfl rfl (by omega)) rfl ?_)
      | (show SW _ _ _ _ (⟨_, Op.indexAddr _ _ _, _, _, _, none⟩ :: _) _ _; refine SW.st (st_indexN rfl rfl (by assumption) (by omega)) rfl ?_)
      | (show SW _ _ _ _ (⟨_, Op.call ⟨.builtin .len, _, _⟩, _, _, _, none⟩ :: _) _ _; refine SW.st (st_len rfl) rfl ?_)
      | (show SW _ _ _ _ (⟨_, Op.call ⟨.builtin .cap, _, _⟩, _, _, _, none⟩ :: _) _ _; refine SW.st (st_cap rfl) rfl ?_)
      | (show SW _ _ _ _ (⟨_, Op.call ⟨.value (.func _), _, _⟩, _, _, _, none⟩ :: _) _ _; first | (refine SW.call rfl rfl (s1 _ _ _ _ _ _ _ _ rfl hO.sl hO'.sl (by omega)) ?_; intro v w1 hw1 hv; subst hv; replace hw := Ext.trans hw hw1; replace hO := hO.ext hw1; replace hO' := hO'.ext hw1; replace hK := hK.ext hw1; clear hw1) | (refine SW.call rfl rfl (s1 _ _ _ _ _ _ _ _ rfl hK.sl (hl.ext hw) (by omega)) ?_; intro v w1 hw1 hv; subst hv; replace hw := Ext.trans hw hw1; replace hO := hO.ext hw1; replace hO' := hO'.ext hw1; replace hK := hK.ext hw1; clear hw1)))
    all_goals first | (exfalso; omega) | skip
    exact Post.ret1 rfl rfl ⟨_, rfl, hw, rfl⟩
  · unfold MoveOut at hv
    rw [if_neg hx] at hv
    subst hv
    repeat' (first
      | (show CW _ _ _ _ _ _; first | refine CW.seq ?_ | refine CW.region ?_ | refine CW.block ?_ | refine CW.condtr rfl (by with_reducible rfl) ?_ | refine CW.condfr rfl (by with_reducible rfl) ?_ | refine CW.condd_t rfl (by omega) ?_ | refine CW.condd_f rfl (by omega) ?_ | refine CW.condn_t rfl (by omega) ?_ | refine CW.condn_f rfl (by omega) ?_ | refine CW.condd rfl (fun h => ?_) (fun h => ?_) | refine CW.condn rfl (fun h => ?_) (fun h => ?_) | refine CW.condt rfl ?_ | refine CW.condf rfl ?_ | refine CW.cond rfl (fun h => ?_) (fun h => ?_) | refine CW.skip ?_ | refine CW.ret ?_ | refine CW.exit ?_)
      | (show Post _ _ _ _ _; first | refine Post.seq ?_ | refine Post.seq_ret ?_ | refine Post.seq_exit ?_ | refine Post.hit ?_ | refine Post.pass rfl ?_ | refine Post.blk ?_ | refine Post.blk_ret ?_ | refine Post.again_exit ?_ | refine Post.again_ret ?_ | refine Post.np ?_)
      | refine SW.nil ?_
      | (show SW _ _ _ _ (⟨_, _, _, _, _, some _⟩ :: _) _ _; first | refine SW.want_t rfl rfl (by with_reducible rfl) ?_ | refine SW.want_f rfl rfl (by with_reducible rfl) ?_ | refine SW.skip_t rfl rfl (by with_reducible rfl) rfl ?_ | refine SW.skip_f rfl rfl (by with_reducible rfl) rfl ?_ | refine SW.skip_u rfl rfl (by with_reducible rfl) rfl ?_ | refine SW.splitd_t rfl rfl rfl (by omega) ?_ | refine SW.splitd_f rfl rfl rfl (by omega) ?_ | refine SW.splitn_t rfl rfl rfl (by omega) ?_ | refine SW.splitn_f rfl rfl rfl (by omega) ?_ | refine SW.splitd rfl rfl rfl (fun h => ?_) (fun h => ?_) | refine SW.splitn rfl rfl rfl (fun h => ?_) (fun h => ?_) | refine SW.want rfl rfl ?_ | refine SW.skip rfl rfl rfl rfl ?_ | refine SW.skipu rfl rfl rfl ?_ | refine SW.split rfl rfl rfl (fun h => ?_) (fun h => ?_))
      | refine SW.pure rfl rfl ?_
      | (show SW _ _ _ _ (⟨_, Op.fieldAddr _ _ _, _, _, _, none⟩ :: _) _ _; refine SW.st (st_field rfl) rfl ?_)
      | (show SW _ _ _ _ (⟨_, Op.nilCheck _, _, _, _, none⟩ :: _) _ _; refine SW.st (st_nilCheck rfl) rfl ?_)
      | (show SW _ _ _ _ (⟨_, Op.build _ _, _, _, _, none⟩ :: _) _ _; refine SW.st (st_build rfl rfl) rfl ?_)
      | (show SW _ _ _ _ (⟨_, Op.binOp _ _ _ _ _, _, _, _, none⟩ :: _) _ _; first | refine SW.st (st_add rfl rfl (by omega) (by omega)) rfl ?_ | refine SW.st (st_sub rfl rfl (by omega) (by omega)) rfl ?_ | refine SW.st (st_mul rfl rfl (by omega) (by omega)) rfl ?_ | refine SW.st (st_quo rfl rfl (by omega) (by omega) (by omega)) rfl ?_ | refine SW.st (st_rem rfl rfl (by omega)) rfl ?_)
      | (show SW _ _ _ _ (⟨_, Op.indexAddr _ _ _, _, _, _, none⟩ :: _) _ _; refine SW.st (st_indexN rfl rfl (by assumption) (by omega)) rfl ?_)
      | (show SW _ _ _ _ (⟨_, Op.call ⟨.builtin .len, _, _⟩, _, _, _, none⟩ :: _) _ _; refine SW.st (st_len rfl) rfl ?_)
      | (show SW _ _ _ _ (⟨_, Op.call ⟨.builtin .cap, _, _⟩, _, _, _, none⟩ :: _) _ _; refine SW.st (st_cap rfl) rfl ?_))
    refine SW.call rfl rfl (MoveOf_ans _ _ _ _ _ _ _ _ (hl.ext hw) hn) fun v w3 hw3 hv => ?_
    replace hw := Ext.trans hw hw3
    replace hK := hK.ext hw3
    unfold MoveOut at hv
    rw [if_neg hx] at hv
    subst hv
    have s1 : ∀ w' (p q : List Int) (X Y : Option Addr) (a b m : Nat), p = q → Sl w' 1 encI X m p → Sl w' 1 encI Y m q → m ≤ 2305843009213693952 → Ans Try.prog 17 [.slice X m a, .slice Y m b] w' fun v _ => v = .bool true := fun w' p q X Y a b m e h1 h2 h3 => by
      have := sameInts_ans X Y m m a b p q w' h1 h2 h3
      simpa [e] using this
    repeat' (first
      | (show CW _ _ _ _ _ _; first | refine CW.seq ?_ | refine CW.region ?_ | refine CW.block ?_ | refine CW.condtr rfl (by with_reducible rfl) ?_ | refine CW.condfr rfl (by with_reducible rfl) ?_ | refine CW.condd_t rfl (by omega) ?_ | refine CW.condd_f rfl (by omega) ?_ | refine CW.condn_t rfl (by omega) ?_ | refine CW.condn_f rfl (by omega) ?_ | refine CW.condd rfl (fun h => ?_) (fun h => ?_) | refine CW.condn rfl (fun h => ?_) (fun h => ?_) | refine CW.condt rfl ?_ | refine CW.condf rfl ?_ | refine CW.cond rfl (fun h => ?_) (fun h => ?_) | refine CW.skip ?_ | refine CW.ret ?_ | refine CW.exit ?_)
      | (show Post _ _ _ _ _; first | refine Post.seq ?_ | refine Post.seq_ret ?_ | refine Post.seq_exit ?_ | refine Post.hit ?_ | refine Post.pass rfl ?_ | refine Post.blk ?_ | refine Post.blk_ret ?_ | refine Post.again_exit ?_ | refine Post.again_ret ?_ | refine Post.np ?_)
      | refine SW.nil ?_
      | (show SW _ _ _ _ (⟨_, _, _, _, _, some _⟩ :: _) _ _; first | refine SW.want_t rfl rfl (by with_reducible rfl) ?_ | refine SW.want_f rfl rfl (by with_reducible rfl) ?_ | refine SW.skip_t rfl rfl (by with_reducible rfl) rfl ?_ | refine SW.skip_f rfl rfl (by with_reducible rfl) rfl ?_ | refine SW.skip_u rfl rfl (by with_reducible rfl) rfl ?_ | refine SW.splitd_t rfl rfl rfl (by omega) ?_ | refine SW.splitd_f rfl rfl rfl (by omega) ?_ | refine SW.splitn_t rfl rfl rfl (by omega) ?_ | refine SW.splitn_f rfl rfl rfl (by omega) ?_ | refine SW.splitd rfl rfl rfl (fun h => ?_) (fun h => ?_) | refine SW.splitn rfl rfl rfl (fun h => ?_) (fun h => ?_) | refine SW.want rfl rfl ?_ | refine SW.skip rfl rfl rfl rfl ?_ | refine SW.skipu rfl rfl rfl ?_ | refine SW.split rfl rfl rfl (fun h => ?_) (fun h => ?_))
      | refine SW.pure rfl rfl ?_
      | (show SW _ _ _ _ (⟨_, Op.fieldAddr _ _ _, _, _, _, none⟩ :: _) _ _; refine SW.st (st_field rfl) rfl ?_)
      | (show SW _ _ _ _ (⟨_, Op.nilCheck _, _, _, _, none⟩ :: _) _ _; refine SW.st (st_nilCheck rfl) rfl ?_)
      | (show SW _ _ _ _ (⟨_, Op.build _ _, _, _, _, none⟩ :: _) _ _; refine SW.st (st_build rfl rfl) rfl ?_)
      | (show SW _ _ _ _ (⟨_, Op.binOp _ _ _ _ _, _, _, _, none⟩ :: _) _ _; first | refine SW.st (st_add rfl rfl (by omega) (by omega)) rfl ?_ | refine SW.st (st_sub rfl rfl (by omega) (by omega)) rfl ?_ | refine SW.st (st_mul rfl rfl (by omega) (by omega)) rfl ?_ | refine SW.st (st_quo rfl rfl (by omega) (by omega) (by omega)) rfl ?_ | refine SW.st (st_rem rfl rfl (by omega)) rfl ?_)
      | (show SW _ _ _ _ (⟨_, Op.indexAddr _ _ _, _, _, _, none⟩ :: _) _ _; refine SW.st (st_indexN rfl rfl (by assumption) (by omega)) rfl ?_)
      | (show SW _ _ _ _ (⟨_, Op.call ⟨.builtin .len, _, _⟩, _, _, _, none⟩ :: _) _ _; refine SW.st (st_len rfl) rfl ?_)
      | (show SW _ _ _ _ (⟨_, Op.call ⟨.builtin .cap, _, _⟩, _, _, _, none⟩ :: _) _ _; refine SW.st (st_cap rfl) rfl ?_)
      | (show SW _ _ _ _ (⟨_, Op.call ⟨.value (.func _), _, _⟩, _, _, _, none⟩ :: _) _ _; first | (refine SW.call rfl rfl (s1 _ _ _ _ _ _ _ _ rfl (Sl.nil_ _ _ _ _) (Sl.nil_ _ _ _ _) (by omega)) ?_; intro v w1 hw1 hv; subst hv; replace hw := Ext.trans hw hw1; replace hK := hK.ext hw1; clear hw1) | (refine SW.call rfl rfl (s1 _ _ _ _ _ _ _ _ rfl hK.sl (hl.ext hw) (by omega)) ?_; intro v w1 hw1 hv; subst hv; replace hw := Ext.trans hw hw1; replace hK := hK.ext hw1; clear hw1)))
    all_goals first | (exfalso; omega) | skip
    exact Post.ret1 rfl rfl ⟨_, rfl, hw, rfl⟩
end Go.Proofs.Ytfdjfiioejegiaa
