/-
  Contracts: the law PagesChecks.
-/
import Derived.Test.YtfdmgflboibdoaaM7
set_option linter.unusedVariables false
namespace Go.Proofs.Ytfdmgflboibdoaa
open Go.RowKit

theorem pagesChecks_ans (r : HRow) (h : Heap) (w : World) (hr : RdH w r h) (hs : h.small) (hzn : ∀ z ∈ h.Zones, big64 z) :
    Ans Try.prog 13 [.agg (encH r).toArray] w fun v _ => v = .bool true := by
  refine ans_of Try.func13 rfl Try.ntmps13 rfl ?_
  refine CW.seq (CW.region (SW.box rfl rfl fun b1 w1 hw hb1b hb1 => ?_))
  obtain ⟨q, hq⟩ : ∃ q, heapB h = q := ⟨_, rfl⟩
  have c1 : ∀ w', Ext w w' → Ans Try.prog 43 [.agg (encH r).toArray] w' fun v _ => v = .int .i64 (if q then 0 else 8) := fun w' hx => by
    have := Pcheck_ans r h w' (hr.ext hx) hs hzn
    rwa [hq] at this
  have c2 : ∀ w', Ext w w' → Ans Try.prog 44 [.agg (encH r).toArray] w' fun v _ => v = .bool q := fun w' hx => by
    have := HMay_ans r h w' (hr.ext hx) hs hzn
    rwa [hq] at this
  cases q
  all_goals simp only [if_true, Bool.false_eq_true, if_false] at c1
  repeat' (first | (show CW _ _ _ _ _ _; first | refine CW.seq ?_ | refine CW.region ?_ | refine CW.ret ?_) | (show Post _ _ _ _ _; refine Post.seq ?_) | refine SW.nil ?_ | (show SW _ _ _ _ (⟨_, _, _, _, _, some _⟩ :: _) _ _; first | refine SW.want_t rfl rfl (by with_reducible rfl) ?_ | refine SW.want_f rfl rfl (by with_reducible rfl) ?_ | refine SW.skip_t rfl rfl (by with_reducible rfl) rfl ?_ | refine SW.skip_f rfl rfl (by with_reducible rfl) rfl ?_ | refine SW.skip_u rfl rfl (by with_reducible rfl) rfl ?_ | refine SW.splitd_t rfl rfl rfl (by omega) ?_ | refine SW.want rfl rfl ?_) | refine SW.pure rfl rfl ?_ | (show SW _ _ _ _ (⟨_, Op.load _ _, _, _, _, none⟩ :: _) _ _; refine SW.st (st_loads rfl rfl ((fun _ _ => hb1.cell))) rfl ?_) | (show SW _ _ _ _ (⟨_, Op.call ⟨.value (.func _), _, _⟩, _, _, _, none⟩ :: _) _ _; first | (refine SW.call rfl rfl (c1 _ hw) ?_; intro v w1 hw1 hv; subst hv; replace hw := Ext.trans hw hw1; replace hb1 := hb1.ext hw1; clear hw1) | (refine SW.call rfl rfl (c2 _ hw) ?_; intro v w1 hw1 hv; subst hv; replace hw := Ext.trans hw hw1; replace hb1 := hb1.ext hw1; clear hw1)))
  all_goals exact Post.ret1 rfl rfl ⟨_, rfl, hw, rfl⟩
end Go.Proofs.Ytfdmgflboibdoaa
