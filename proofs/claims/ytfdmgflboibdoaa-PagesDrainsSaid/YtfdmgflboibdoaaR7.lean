/-
  Contracts: lists of regions; boot.Check and its reference; the law BootChecks.
-/
import Derived.Test.YtfdmgflboibdoaaR2
import Derived.Test.YtfdmgflboibdoaaR3
set_option linter.unusedVariables false
namespace Go.Proofs.Ytfdmgflboibdoaa
open Go.RowKit

instance : Enc encR 2 := ⟨fun _ => rfl, fun r u hu => by simp [encR] at hu; rcases hu with rfl | rfl <;> rfl⟩

/-- P2.2, of one list -/
def regionsOk (l : List Region) : Prop := l.length ≤ 40 ∧ ∀ (i : Nat) (h : i < l.length), (l[i]).ok ∧ ∀ (h0 : 0 < i), (l[i - 1]'(by omega)).From + (l[i - 1]'(by omega)).Size < (l[i]).From
noncomputable def regionsB (l : List Region) : Bool := @decide (regionsOk l) (Classical.propDecidable _)
theorem regionsB_t {l : List Region} (h : regionsOk l) : regionsB l = true := by unfold regionsB; exact @decide_eq_true _ (Classical.propDecidable _) h
theorem regionsB_f {l : List Region} (h : ¬ regionsOk l) : regionsB l = false := by unfold regionsB; exact @decide_eq_false _ (Classical.propDecidable _) h
theorem regionsB_iff {l : List Region} : regionsB l = true ↔ regionsOk l := by
  by_cases h : regionsOk l
  · simp [regionsB_t h, h]
  · simp [regionsB_f h, h]

theorem CheckRegion_ok {r : Region} (h : r.ok) (w : World) : Ans Try.prog 144 [.agg (encR r).toArray] w fun v _ => v = .int .i64 0 := (CheckRegion_ans r w).mono fun _ _ _ hv => by rw [hv, if_pos h]
theorem CheckRegion_no {r : Region} (h : ¬ r.ok) (w : World) : Ans Try.prog 144 [.agg (encR r).toArray] w fun v _ => v = .int .i64 1 := (CheckRegion_ans r w).mono fun _ _ _ hv => by rw [hv, if_neg h]
theorem RegionFault_ok {r : Region} (h : r.ok) (w : World) : Ans Try.prog 92 [.agg (encR r).toArray] w fun v _ => v = .int .i64 0 := (RegionFault_ans r w).mono fun _ _ _ hv => by rw [hv, if_pos h]
theorem RegionFault_no {r : Region} (h : ¬ r.ok) (w : World) : Ans Try.prog 92 [.agg (encR r).toArray] w fun v _ => v = .int .i64 1 := (RegionFault_ans r w).mono fun _ _ _ hv => by rw [hv, if_neg h]

theorem end_ok {r : Region} (h : r.ok) (w : World) : Ans Try.prog 101 [.agg (encR r).toArray] w fun v _ => v = .int .i64 (r.From + r.Size) := by
  obtain ⟨h1, h2, h3, h4⟩ := h
  refine ans_of Try.func101 rfl Try.ntmps101 rfl ?_
  refine CW.seq (CW.region (SW.box rfl rfl fun b w1 hw hb hB => ?_))
  repeat' (first | (show CW _ _ _ _ _ _; first | refine CW.seq ?_ | refine CW.region ?_ | refine CW.ret ?_) | (show Post _ _ _ _ _; refine Post.seq ?_) | refine SW.nil ?_ | refine SW.pure rfl rfl ?_ | (show SW _ _ _ _ (⟨_, Op.fieldAddr _ _ _, _, _, _, none⟩ :: _) _ _; refine SW.st (st_field rfl) rfl ?_) | (show SW _ _ _ _ (⟨_, Op.binOp _ _ _ _ _, _, _, _, none⟩ :: _) _ _; refine SW.st (st_add rfl rfl (by omega) (by omega)) rfl ?_) | (show SW _ _ _ _ (⟨_, Op.load _ _, _, _, _, none⟩ :: _) _ _; refine SW.st (st_load rfl (hB.cell rfl)) rfl ?_))
  exact Post.ret1 rfl rfl ⟨_, rfl, hw, rfl⟩

theorem regionsMay_ans (A : Option Addr) (n c : Nat) (l : List Region) (w : World) (hl : Sl w 2 encR A n l) (hn : n ≤ 9223372036854775807) :
    Ans Try.prog 122 [.slice A n c] w fun v _ => v = .bool (regionsB l) := by
  refine ans_of Try.func122 rfl Try.ntmps122 rfl ?_
  have hw := Ext.refl w
  have hA := hl.base
  have hll := hl.len
  repeat' (first | (show CW _ _ _ _ _ _; first | refine CW.seq ?_ | refine CW.region ?_ | refine CW.block ?_ | refine CW.condd rfl (fun h => ?_) (fun h => ?_) | refine CW.skip ?_ | refine CW.ret ?_) | (show Post _ _ _ _ _; first | refine Post.seq ?_ | refine Post.seq_ret ?_) | refine SW.nil ?_ | refine SW.pure rfl rfl ?_ | (show SW _ _ _ _ (⟨_, Op.call ⟨.builtin .len, _, _⟩, _, _, _, none⟩ :: _) _ _; refine SW.st (st_len rfl) rfl ?_))
  · refine Post.ret1 rfl rfl ⟨_, rfl, hw, ?_⟩
    rw [regionsB_f (fun h => by have := h.1; omega)]
  · refine CW.loop (fun k : Nat => [(0, .slice A n c), (3, .int .i64 (k : Int))]) (fun k w' => k ≤ n ∧ Ext w w' ∧ ∀ (i : Nat) (h : i < l.length), i < k → (l[i]).ok ∧ ∀ (h0 : 0 < i), (l[i - 1]'(by omega)).From + (l[i - 1]'(by omega)).Size < (l[i]).From)
      (fun k => n - k) 0 ⟨rfl, rfl, trivial⟩ ⟨by omega, hw, fun i h hi => by omega⟩ ?_
    clear hw
    rintro k w' ⟨hk, hw, hI⟩
    by_cases hkn : k < n
    · have hkl := hl.lt hkn
      by_cases hok : (l[k]).ok
      · by_cases hk0 : k = 0
        · subst hk0
          repeat' (first | (show CW _ _ _ _ _ _; first | refine CW.seq ?_ | refine CW.region ?_ | refine CW.block ?_ | refine CW.condfr rfl (by with_reducible rfl) ?_ | refine CW.condd_t rfl (by omega) ?_ | refine CW.condn_f rfl (by omega) ?_ | refine CW.skip ?_ | (apply CW.quiet1 mixed; (· kernel_rfl); rotate_left; intro w1 hw1; replace hw := Ext.trans hw hw1; clear hw1; rotate_right)) | (show Post _ _ _ _ _; first | refine Post.seq ?_ | refine Post.blk ?_) | refine SW.nil ?_ | (show SW _ _ _ _ (⟨_, _, _, _, _, some _⟩ :: _) _ _; first | refine SW.skip_t rfl rfl (by with_reducible rfl) rfl ?_ | refine SW.splitd_f rfl rfl rfl (by omega) ?_) | refine SW.pure rfl rfl ?_ | (show SW _ _ _ _ (⟨_, Op.binOp _ _ _ _ _, _, _, _, none⟩ :: _) _ _; refine SW.st (st_add rfl rfl (by omega) (by omega)) rfl ?_) | (show SW _ _ _ _ (⟨_, Op.indexAddr _ _ _, _, _, _, none⟩ :: _) _ _; refine SW.st (st_indexN rfl rfl (by assumption) (by omega)) rfl ?_) | (show SW _ _ _ _ (⟨_, Op.call ⟨.builtin .len, _, _⟩, _, _, _, none⟩ :: _) _ _; refine SW.st (st_len rfl) rfl ?_) | (show SW _ _ _ _ (⟨_, Op.load _ _, _, _, _, none⟩ :: _) _ _; refine SW.st (st_loadsx hw rfl rfl ((hl.all hkn))) rfl ?_) | (show SW _ _ _ _ (⟨_, Op.call ⟨.value (.func _), _, _⟩, _, _, _, none⟩ :: _) _ _; (refine SW.call rfl rfl (RegionFault_ok hok _) ?_; intro v w1 hw1 hv; subst hv; replace hw := Ext.trans hw hw1; clear hw1)) | exact SW.qnil rfl)
          refine Post.again (0 + 1) ⟨rfl, rfl, trivial⟩ (by omega) ⟨by omega, hw, fun i h hi => ?_⟩
          obtain rfl : i = 0 := by omega
          exact ⟨hok, fun h0 => by omega⟩
        · obtain ⟨j, rfl⟩ : ∃ j, k = j + 1 := ⟨k - 1, by omega⟩
          have hj : j < n := by omega
          have hp := (hI j (hl.lt hj) (by omega)).1
          have hp' := hp
          have hok' := hok
          unfold Region.ok at hp' hok'
          by_cases hlt : (l[j]'(hl.lt hj)).From + (l[j]'(hl.lt hj)).Size < (l[j + 1]).From
          all_goals
            repeat' (first | (show CW _ _ _ _ _ _; first | refine CW.seq ?_ | refine CW.region ?_ | refine CW.block ?_ | refine CW.condd_t rfl (by omega) ?_ | refine CW.condd_f rfl (by omega) ?_ | refine CW.condn_f rfl (by omega) ?_ | refine CW.skip ?_ | refine CW.ret ?_ | (apply CW.quiet1 mixed; (· kernel_rfl); rotate_left; intro w1 hw1; replace hw := Ext.trans hw hw1; clear hw1; rotate_right)) | (show Post _ _ _ _ _; first | refine Post.seq ?_ | refine Post.seq_ret ?_ | refine Post.blk ?_ | refine Post.blk_ret ?_ | refine Post.again_ret ?_) | refine SW.nil ?_ | (show SW _ _ _ _ (⟨_, _, _, _, _, some _⟩ :: _) _ _; first | refine SW.want_t rfl rfl (by with_reducible rfl) ?_ | refine SW.splitd_t rfl rfl rfl (by omega) ?_) | refine SW.pure rfl rfl ?_ | (show SW _ _ _ _ (⟨_, Op.fieldAddr _ _ _, _, _, _, none⟩ :: _) _ _; refine SW.st (st_field rfl) rfl ?_) | (show SW _ _ _ _ (⟨_, Op.binOp _ _ _ _ _, _, _, _, none⟩ :: _) _ _; first | refine SW.st (st_add rfl rfl (by omega) (by omega)) rfl ?_ | refine SW.st (st_sub rfl rfl (by omega) (by omega)) rfl ?_) | (show SW _ _ _ _ (⟨_, Op.indexAddr _ _ _, _, _, _, none⟩ :: _) _ _; first | refine SW.st (st_indexN rfl rfl (by assumption) (by omega)) rfl ?_ | refine SW.st (st_indexI (j) rfl rfl (by assumption) (by omega) (by omega)) rfl ?_) | (show SW _ _ _ _ (⟨_, Op.call ⟨.builtin .len, _, _⟩, _, _, _, none⟩ :: _) _ _; refine SW.st (st_len rfl) rfl ?_) | (show SW _ _ _ _ (⟨_, Op.load _ _, _, _, _, none⟩ :: _) _ _; first | refine SW.st (st_loadsx hw rfl rfl ((hl.all hkn))) rfl ?_ | refine SW.st (st_loadx hw rfl (hl.fld hkn rfl)) rfl ?_ | refine SW.st (st_loadx hw rfl (hl.fld hj rfl)) rfl ?_) | (show SW _ _ _ _ (⟨_, Op.call ⟨.value (.func _), _, _⟩, _, _, _, none⟩ :: _) _ _; (refine SW.call rfl rfl (RegionFault_ok hok _) ?_; intro v w1 hw1 hv; subst hv; replace hw := Ext.trans hw hw1; clear hw1)) | exact SW.qnil rfl)
          · refine Post.again (j + 1 + 1) ⟨rfl, rfl, trivial⟩ (by omega) ⟨by omega, hw, fun i h hi => ?_⟩
            by_cases hij : i = j + 1
            · subst hij
              exact ⟨hok, fun _ => hlt⟩
            · exact hI i h (by omega)
          · refine Post.ret1 rfl rfl ⟨_, rfl, hw, ?_⟩
            rw [regionsB_f (fun h => hlt ((h.2 (j + 1) hkl).2 (by omega)))]
      · repeat' (first | (show CW _ _ _ _ _ _; first | refine CW.seq ?_ | refine CW.region ?_ | refine CW.block ?_ | refine CW.condd_t rfl (by omega) ?_ | refine CW.condn_t rfl (by omega) ?_ | refine CW.skip ?_ | refine CW.ret ?_) | (show Post _ _ _ _ _; first | refine Post.seq ?_ | refine Post.seq_ret ?_ | refine Post.blk_ret ?_ | refine Post.again_ret ?_) | refine SW.nil ?_ | refine SW.pure rfl rfl ?_ | (show SW _ _ _ _ (⟨_, Op.indexAddr _ _ _, _, _, _, none⟩ :: _) _ _; refine SW.st (st_indexN rfl rfl (by assumption) (by omega)) rfl ?_) | (show SW _ _ _ _ (⟨_, Op.call ⟨.builtin .len, _, _⟩, _, _, _, none⟩ :: _) _ _; refine SW.st (st_len rfl) rfl ?_) | (show SW _ _ _ _ (⟨_, Op.load _ _, _, _, _, none⟩ :: _) _ _; refine SW.st (st_loadsx hw rfl rfl ((hl.all hkn))) rfl ?_) | (show SW _ _ _ _ (⟨_, Op.call ⟨.value (.func _), _, _⟩, _, _, _, none⟩ :: _) _ _; (refine SW.call rfl rfl (RegionFault_no hok _) ?_; intro v w1 hw1 hv; subst hv; replace hw := Ext.trans hw hw1; clear hw1)))
        refine Post.ret1 rfl rfl ⟨_, rfl, hw, ?_⟩
        rw [regionsB_f (fun h => hok (h.2 k hkl).1)]
    · repeat' (first | (show CW _ _ _ _ _ _; first | refine CW.seq ?_ | refine CW.region ?_ | refine CW.condd_f rfl (by omega) ?_ | refine CW.ret ?_ | refine CW.exit ?_) | (show Post _ _ _ _ _; first | refine Post.seq ?_ | refine Post.seq_exit ?_ | refine Post.hit ?_ | refine Post.again_exit ?_) | refine SW.nil ?_ | refine SW.pure rfl rfl ?_ | (show SW _ _ _ _ (⟨_, Op.call ⟨.builtin .len, _, _⟩, _, _, _, none⟩ :: _) _ _; refine SW.st (st_len rfl) rfl ?_))
      refine Post.ret1 rfl rfl ⟨_, rfl, hw, ?_⟩
      rw [regionsB_t ⟨by omega, fun i h => hI i h (by omega)⟩]
end Go.Proofs.Ytfdmgflboibdoaa
