/-
  Contracts of the small functions: In, sameInts and their like.
-/
import Derived.Test.YtfommgdbahemfaaDoorTy
import Derived.Test.YtfommgdbahemfaaDoorData
set_option linter.unusedVariables false
namespace Go.Proofs.YtfommgdbahemfaaDoor
open Go.RowKit

theorem In_ans (x lo hi : Int) (w : World) : Ans Tryd.prog 27 [.int .i64 x, .int .i64 lo, .int .i64 hi] w fun v _ => v = .bool (decide (lo ≤ x ∧ x ≤ hi)) := by
  refine ans_of Tryd.func27 rfl Tryd.ntmps27 rfl ?_
  repeat' (first | (show CW _ _ _ _ _ _; first | refine CW.seq ?_ | refine CW.region ?_ | refine CW.ret ?_) | (show Post _ _ _ _ _; refine Post.seq ?_) | refine SW.nil ?_ | (show SW _ _ _ _ (⟨_, _, _, _, _, some _⟩ :: _) _ _; first | refine SW.want_t rfl rfl (by with_reducible rfl) ?_ | refine SW.skip_t rfl rfl (by with_reducible rfl) rfl ?_ | refine SW.splitd rfl rfl rfl (fun h => ?_) (fun h => ?_)) | refine SW.pure rfl rfl ?_)
  all_goals refine Post.ret1 rfl rfl ⟨_, rfl, Ext.refl _, ?_⟩
  all_goals simp [*]

theorem sameInts_ans (A B : Option Addr) (n m c d : Nat) (xs ys : List Int) (w : World) (hx : Sl w 1 encI A n xs) (hy : Sl w 1 encI B m ys) (hn : n ≤ 2305843009213693952) :
    Ans Tryd.prog 34 [.slice A n c, .slice B m d] w fun v _ => v = .bool (decide (xs = ys)) := by
  refine ans_of Tryd.func34 rfl Tryd.ntmps34 rfl ?_
  have hl := hx.len
  have hl' := hy.len
  have hA := hx.base
  have hB := hy.base
  have hw := Ext.refl w
  repeat' (first | (show CW _ _ _ _ _ _; first | refine CW.seq ?_ | refine CW.region ?_ | refine CW.block ?_ | refine CW.condn rfl (fun h => ?_) (fun h => ?_) | refine CW.skip ?_ | refine CW.ret ?_) | (show Post _ _ _ _ _; first | refine Post.seq ?_ | refine Post.seq_ret ?_) | refine SW.nil ?_ | refine SW.pure rfl rfl ?_ | (show SW _ _ _ _ (⟨_, Op.call ⟨.builtin .len, _, _⟩, _, _, _, none⟩ :: _) _ _; refine SW.st (st_len rfl) rfl ?_))
  · refine Post.ret1 rfl rfl ⟨_, rfl, hw, ?_⟩
    have : xs ≠ ys := fun e => by subst e; omega
    simp [this]
  · have hnm : n = m := by omega
    refine CW.loop (fun k : Nat => [(0, .slice A n c), (1, .slice B m d), (5, .int .i64 (k : Int))])
      (fun k w' => k ≤ n ∧ Ext w w' ∧ ∀ j (h1 : j < xs.length) (h2 : j < ys.length), j < k → xs[j] = ys[j]) (fun k => n - k) 0 ⟨rfl, rfl, rfl, trivial⟩ ⟨by omega, hw, fun j _ _ h => by omega⟩ ?_
    clear hw
    rintro k w' ⟨hk, hw, heq⟩
    by_cases hkn : k < n
    · repeat' (first | (show CW _ _ _ _ _ _; first | refine CW.seq ?_ | refine CW.region ?_ | refine CW.block ?_ | refine CW.condd_t rfl (by omega) ?_ | refine CW.condn rfl (fun h => ?_) (fun h => ?_) | refine CW.skip ?_ | refine CW.ret ?_ | (apply CW.quiet1 mixed; (· kernel_rfl); rotate_left; intro w1 hw1; replace hw := Ext.trans hw hw1; clear hw1; rotate_right)) | (show Post _ _ _ _ _; first | refine Post.seq ?_ | refine Post.seq_ret ?_ | refine Post.blk ?_ | refine Post.blk_ret ?_ | refine Post.again_ret ?_) | refine SW.nil ?_ | refine SW.pure rfl rfl ?_ | (show SW _ _ _ _ (⟨_, Op.binOp _ _ _ _ _, _, _, _, none⟩ :: _) _ _; refine SW.st (st_add rfl rfl (by omega) (by omega)) rfl ?_) | (show SW _ _ _ _ (⟨_, Op.indexAddr _ _ _, _, _, _, none⟩ :: _) _ _; refine SW.st (st_indexN rfl rfl (by assumption) (by omega)) rfl ?_) | (show SW _ _ _ _ (⟨_, Op.call ⟨.builtin .len, _, _⟩, _, _, _, none⟩ :: _) _ _; refine SW.st (st_len rfl) rfl ?_) | (show SW _ _ _ _ (⟨_, Op.load _ _, _, _, _, none⟩ :: _) _ _; first | refine SW.st (st_loadx hw rfl (hx.one hkn rfl)) rfl ?_ | refine SW.st (st_loadx hw rfl (hy.one (hnm ▸ hkn) rfl)) rfl ?_) | exact SW.qnil rfl)
      · refine Post.ret1 rfl rfl ⟨_, rfl, hw, ?_⟩
        have : xs ≠ ys := fun e => by subst e; exact h rfl
        simp [this]
      · refine Post.again (k + 1) ⟨rfl, rfl, rfl, trivial⟩ (by omega) ⟨by omega, hw, fun j h1 h2 hj => ?_⟩
        by_cases hjk : j = k
        · subst hjk; assumption
        · exact heq j h1 h2 (by omega)
    · repeat' (first | (show CW _ _ _ _ _ _; first | refine CW.seq ?_ | refine CW.region ?_ | refine CW.condd_f rfl (by omega) ?_ | refine CW.ret ?_ | refine CW.exit ?_) | (show Post _ _ _ _ _; first | refine Post.seq ?_ | refine Post.seq_exit ?_ | refine Post.hit ?_ | refine Post.again_exit ?_) | refine SW.nil ?_ | refine SW.pure rfl rfl ?_ | (show SW _ _ _ _ (⟨_, Op.call ⟨.builtin .len, _, _⟩, _, _, _, none⟩ :: _) _ _; refine SW.st (st_len rfl) rfl ?_))
      refine Post.ret1 rfl rfl ⟨_, rfl, hw, ?_⟩
      have : xs = ys := List.ext_getElem (by omega) fun j h1 h2 => heq j h1 h2 (by omega)
      simp [this]
end Go.Proofs.YtfommgdbahemfaaDoor
