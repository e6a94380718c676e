/-
  Contracts: words, and copies of lists of integers.
-/
import Derived.Test.YtfommgdbahemfaaDoorR1
import Derived.Test.YtfommgdbahemfaaDoorMem
set_option linter.unusedVariables false
namespace Go.Proofs.YtfommgdbahemfaaDoor
open Go.RowKit

theorem in_ans (A : Option Addr) (n c : Nat) (x k : Int) (w : World) (hn : n ≤ 2305843009213693952) : Ans Tryd.prog 134 [.slice A n c, .int .i64 x, .int .i64 k] w fun v _ => v = .bool (decide (0 ≤ x ∧ 0 ≤ k ∧ k ≤ n ∧ x + k ≤ n)) := by
  refine ans_of Tryd.func134 rfl Tryd.ntmps134 rfl ?_
  repeat' (first | (show CW _ _ _ _ _ _; first | refine CW.seq ?_ | refine CW.region ?_ | refine CW.ret ?_) | (show Post _ _ _ _ _; refine Post.seq ?_) | refine SW.nil ?_ | (show SW _ _ _ _ (⟨_, _, _, _, _, some _⟩ :: _) _ _; first | refine SW.want_t rfl rfl (by with_reducible rfl) ?_ | refine SW.skip_t rfl rfl (by with_reducible rfl) rfl ?_ | refine SW.splitd rfl rfl rfl (fun h => ?_) (fun h => ?_)) | refine SW.pure rfl rfl ?_ | (show SW _ _ _ _ (⟨_, Op.binOp _ _ _ _ _, _, _, _, none⟩ :: _) _ _; refine SW.st (st_sub rfl rfl (by omega) (by omega)) rfl ?_) | (show SW _ _ _ _ (⟨_, Op.call ⟨.builtin .len, _, _⟩, _, _, _, none⟩ :: _) _ _; refine SW.st (st_len rfl) rfl ?_))
  all_goals refine Post.ret1 rfl rfl ⟨_, rfl, Ext.refl _, ?_⟩
  all_goals congr 1
  all_goals symm
  all_goals first | (refine decide_eq_true ?_; omega) | (refine decide_eq_false ?_; omega) | (rw [decide_eq_decide]; omega)

theorem there_ans (A : Option Addr) (n c : Nat) (x k : Int) (w : World) (hn : n ≤ 2305843009213693952) : Ans Tryd.prog 141 [.slice A n c, .int .i64 x, .int .i64 k] w fun v _ => v = .bool (decide (0 ≤ x ∧ 0 ≤ k ∧ k ≤ n ∧ x + k ≤ n)) := by
  refine ans_of Tryd.func141 rfl Tryd.ntmps141 rfl ?_
  have hw := Ext.refl w
  repeat' (first | (show CW _ _ _ _ _ _; first | refine CW.seq ?_ | refine CW.region ?_ | refine CW.ret ?_) | (show Post _ _ _ _ _; refine Post.seq ?_) | refine SW.nil ?_ | (show SW _ _ _ _ (⟨_, _, _, _, _, some _⟩ :: _) _ _; first | refine SW.want_t rfl rfl (by with_reducible rfl) ?_ | refine SW.skip_t rfl rfl (by with_reducible rfl) rfl ?_ | refine SW.splitd rfl rfl rfl (fun h => ?_) (fun h => ?_)) | refine SW.pure rfl rfl ?_ | (show SW _ _ _ _ (⟨_, Op.binOp _ _ _ _ _, _, _, _, none⟩ :: _) _ _; refine SW.st (st_add rfl rfl (by omega) (by omega)) rfl ?_) | (show SW _ _ _ _ (⟨_, Op.call ⟨.builtin .len, _, _⟩, _, _, _, none⟩ :: _) _ _; refine SW.st (st_len rfl) rfl ?_) | (show SW _ _ _ _ (⟨_, Op.call ⟨.value (.func _), _, _⟩, _, _, _, none⟩ :: _) _ _; (refine SW.call rfl rfl (In_ans _ _ _ _) ?_; intro v w1 hw1 hv; subst hv; replace hw := Ext.trans hw hw1; clear hw1)))
  all_goals refine Post.ret1 rfl rfl ⟨_, rfl, hw, ?_⟩
  all_goals congr 1
  all_goals symm
  all_goals first | (refine decide_eq_true ?_; omega) | (refine decide_eq_false ?_; omega) | (rw [decide_eq_decide]; omega)

/-- a list of integers, copied -/
def Copied (w : World) (e sz : Nat) {α : Type} (enc : α → List Value) (n : Nat) (l : List α) : Value → World → Prop := fun v w' => ∃ A c, v = .slice A n c ∧ Own w' w.heap.size e sz enc A n c l

theorem words_ans (A : Option Addr) (n c : Nat) (l : List Int) (w : World) (hl : Sl w 1 encI A n l) (hn : n * 8 ≤ 140737488355328) : Ans Tryd.prog 17 [.slice A n c] w (Copied w 3 1 encI n l) := by
  refine ans_of Tryd.func17 rfl Tryd.ntmps17 rfl ?_
  have hw := Ext.refl w
  have hA := hl.base
  repeat' (first | (show CW _ _ _ _ _ _; first | refine CW.seq ?_ | refine CW.region ?_ | refine CW.block ?_) | (show Post _ _ _ _ _; refine Post.seq ?_) | refine SW.nil ?_ | refine SW.pure rfl rfl ?_)
  refine CW.loop (fun s : Nat × Option Addr × Nat => [(0, .slice A n c), (3, .slice s.2.1 s.1 s.2.2), (4, .int .i64 (s.1 : Int))])
    (fun s w' => s.1 ≤ n ∧ Ext w w' ∧ Own w' w.heap.size 3 1 encI s.2.1 s.1 s.2.2 (l.take s.1)) (fun s => n - s.1) (0, none, 0) ⟨rfl, rfl, rfl, trivial⟩ ⟨by omega, hw, by simpa using Own.nil_ _ _ _ _ _ _⟩ ?_
  clear hw
  rintro ⟨k, A1, c1⟩ w' ⟨hk, hw, hO⟩
  simp only at hk hO ⊢
  by_cases hkn : k < n
  · repeat' (first | (show CW _ _ _ _ _ _; first | refine CW.seq ?_ | refine CW.region ?_ | refine CW.block ?_ | refine CW.condd_t rfl (by omega) ?_ | refine CW.skip ?_) | (show Post _ _ _ _ _; refine Post.seq ?_) | refine SW.nil ?_ | refine SW.pure rfl rfl ?_ | (show SW _ _ _ _ (⟨_, Op.indexAddr _ _ _, _, _, _, none⟩ :: _) _ _; refine SW.st (st_indexN rfl rfl (by assumption) (by omega)) rfl ?_) | (show SW _ _ _ _ (⟨_, Op.call ⟨.builtin .len, _, _⟩, _, _, _, none⟩ :: _) _ _; refine SW.st (st_len rfl) rfl ?_) | (show SW _ _ _ _ (⟨_, Op.load _ _, _, _, _, none⟩ :: _) _ _; refine SW.st (st_loadx hw rfl (hl.one hkn rfl)) rfl ?_))
    refine SW.build1 rfl rfl rfl rfl rfl fun b w1 hw1 hb hB => ?_
    replace hw := Ext.trans hw hw1
    replace hO := hO.ext hw1
    refine SW.append hO (Blk.sl1 (enc := encI) hB) hw.size rfl rfl rfl (by omega) (by omega) fun A2 c2 w2 hO1 hg => ?_
    replace hw := ext_grown hw hg (Nat.le_refl _) hO.row_ge
    repeat' (first | (show CW _ _ _ _ _ _; refine CW.region ?_) | (show Post _ _ _ _ _; first | refine Post.seq ?_ | refine Post.blk ?_) | refine SW.nil ?_ | refine SW.pure rfl rfl ?_ | (show SW _ _ _ _ (⟨_, Op.binOp _ _ _ _ _, _, _, _, none⟩ :: _) _ _; refine SW.st (st_add rfl rfl (by omega) (by omega)) rfl ?_))
    refine Post.again (k + 1, A2, c2) ⟨rfl, rfl, rfl, trivial⟩ (by simp only; omega) ⟨by simp only; omega, hw, ?_⟩
    rw [List.take_succ_eq_append_getElem (hl.lt hkn)]
    exact hO1
  · repeat' (first | (show CW _ _ _ _ _ _; first | refine CW.seq ?_ | refine CW.region ?_ | refine CW.condd_f rfl (by omega) ?_ | refine CW.ret ?_ | refine CW.exit ?_) | (show Post _ _ _ _ _; first | refine Post.seq ?_ | refine Post.seq_exit ?_ | refine Post.hit ?_ | refine Post.again_exit ?_) | refine SW.nil ?_ | refine SW.pure rfl rfl ?_ | (show SW _ _ _ _ (⟨_, Op.call ⟨.builtin .len, _, _⟩, _, _, _, none⟩ :: _) _ _; refine SW.st (st_len rfl) rfl ?_))
    obtain rfl : k = n := by omega
    refine Post.ret1 rfl rfl ⟨_, rfl, hw, A1, c1, rfl, ?_⟩
    rwa [List.take_of_length_le (by have := hl.len; omega)] at hO



theorem CloneInt_ans (A : Option Addr) (n c : Nat) (l : List Int) (w : World) (hl : Sl w 1 encI A n l) (hn : n * 8 ≤ 140737488355328) : Ans Tryd.prog 57 [.slice A n c] w (Copied w 3 1 encI n l) := by
  refine ans_of Tryd.func57 rfl Tryd.ntmps57 rfl ?_
  have hw := Ext.refl w
  repeat' (first | (show CW _ _ _ _ _ _; first | refine CW.seq ?_ | refine CW.region ?_) | (show Post _ _ _ _ _; refine Post.seq ?_) | refine SW.nil ?_ | refine SW.pure rfl rfl ?_)
  refine SW.st (st_eqnil rfl rfl) rfl ?_
  repeat' (first | (show CW _ _ _ _ _ _; first | refine CW.seq ?_ | refine CW.region ?_ | refine CW.cond rfl (fun h => ?_) (fun h => ?_) | refine CW.skip ?_ | refine CW.ret ?_) | (show Post _ _ _ _ _; first | refine Post.seq ?_ | refine Post.seq_ret ?_) | refine SW.nil ?_ | refine SW.pure rfl rfl ?_)
  · have hn0 : n = 0 := by
      rcases Nat.eq_zero_or_pos n with h0 | h0
      · exact h0
      · have := hl.base h0; simp_all
    subst hn0
    have : l = [] := List.eq_nil_of_length_eq_zero hl.len
    subst this
    exact Post.ret1 rfl rfl ⟨_, rfl, hw, none, 0, rfl, Own.nil_ _ _ _ _ _ _⟩
  · refine SW.build0 rfl fun b w1 hw1 hb => ?_
    replace hw := Ext.trans hw hw1
    repeat' (refine SW.pure rfl rfl ?_)
    refine SW.appendR (Nat.zero_add n) (List.nil_append l) (Own.nil_ w1 w.heap.size _ _ encI (some ⟨b, 0, none⟩)) (hl.ext hw) hw.size rfl rfl rfl (by omega) (by omega) fun A2 c2 w2 hO hg => ?_
    replace hw := ext_grown hw hg (Nat.le_refl _) (by simp [ownB])
    repeat' (first | (show CW _ _ _ _ _ _; refine CW.ret ?_) | (show Post _ _ _ _ _; refine Post.seq ?_) | refine SW.nil ?_ | refine SW.pure rfl rfl ?_)
    exact Post.ret1 rfl rfl ⟨_, rfl, hw, A2, c2, rfl, hO⟩

/-! P1.1 -/

end Go.Proofs.YtfommgdbahemfaaDoor