/-
  Contracts: pages.Check.
-/
import Derived.Test.YtfdmgflboibdoaaM3
set_option linter.unusedVariables false
set_option linter.unusedSimpArgs false
namespace Go.Proofs.Ytfdmgflboibdoaa
open Go.RowKit

theorem addAll_fits {l : List Block} : ∀ {s : Option (List Block)}, (addAll s l).isSome = true → ∀ b ∈ l, 0 ≤ b.At ∧ b.At + pw b.Order ≤ 256 := by
  induction l with
  | nil => intro s _ b hb; simp at hb
  | cons x l ih =>
    intro s h b hb
    have h' : (addAll (addB s x) l).isSome = true := h
    rcases List.mem_cons.1 hb with rfl | hb
    · cases e : addB s b with
      | none => rw [e, addAll_none] at h'; cases h'
      | some bs => obtain ⟨cs, _, hf, _⟩ := addB_some e; exact ⟨hf.1, hf.2.1⟩
    · exact ih h' b hb
def liveC (b : Block) : Prop := (0 ≤ b.Order ∧ b.Order ≤ 4) ∧ 0 ≤ b.At ∧ b.At % pw b.Order = 0 ∧ tyOk b.Ty
structure VPre (l : List Block) (k : Nat) : Prop where
  each : ∀ (i : Nat) (h : i < l.length), i < k → liveC l[i]
  next : ∀ (i : Nat) (h : i + 1 < l.length), i + 1 < k → l[i].At < l[i + 1].At
theorem VPre.nil (l : List Block) : VPre l 0 := ⟨fun i _ h => by omega, fun i _ h => by omega⟩
theorem VPre.snoc {l : List Block} {k : Nat} (h : VPre l k) (hk : k < l.length) (h1 : liveC l[k]) (h2 : ∀ (h : 0 < k), l[k - 1].At < l[k].At) : VPre l (k + 1) := by
  refine ⟨fun i hi hik => ?_, fun i hi hik => ?_⟩
  · by_cases e : i = k
    · subst e; exact h1
    · exact h.each i hi (by omega)
  · by_cases e : i + 1 = k
    · subst e; exact h2 (by omega)
    · exact h.next i hi (by omega)
theorem VPre.ok {l : List Block} {k : Nat} {s : Option (List Block)} (h : VPre l k) (hk : l.length ≤ k) (hf : (addAll s l).isSome = true) : LiveOk l := by
  refine ⟨fun i hi => ?_, fun i hi => h.next i hi (by omega)⟩
  obtain ⟨h1, h2, h3, h4⟩ := h.each i hi (by omega)
  have h5 := addAll_fits hf _ (List.getElem_mem hi)
  have h6 := pw_le h1.1 h1.2
  exact ⟨h1, ⟨h2, by omega⟩, h3, h4⟩

def outM (n : Int) : Bool := decide (n < 0) || decide (256 < n)
theorem Pout_ans (x : Int) (w : World) : Ans Try.prog 95 ([.int .i64 x] ++ []) w fun v _ => v = .bool (outM x) := by
  refine ans_of Try.func95 rfl Try.ntmps95 rfl ?_
  have hw := Ext.refl w
  have hcs : x < 0 ∨ (0 ≤ x ∧ (256 < x ∨ x ≤ 256)) := by omega
  rcases hcs with d | ⟨d1, d | d⟩
  repeat' (first | (show CW _ _ _ _ _ _; first | refine CW.seq ?_ | refine CW.region ?_ | refine CW.ret ?_) | (show Post _ _ _ _ _; refine Post.seq ?_) | refine SW.nil ?_ | (show SW _ _ _ _ (⟨_, _, _, _, _, some _⟩ :: _) _ _; first | refine SW.want_f rfl rfl (by with_reducible rfl) ?_ | refine SW.skip_f rfl rfl (by with_reducible rfl) rfl ?_ | refine SW.splitd_t rfl rfl rfl (by omega) ?_ | refine SW.splitd_f rfl rfl rfl (by omega) ?_) | refine SW.pure rfl rfl ?_)
  all_goals exact Post.ret1 rfl rfl ⟨_, rfl, hw, by unfold outM; simp; omega⟩
end Go.Proofs.Ytfdmgflboibdoaa
