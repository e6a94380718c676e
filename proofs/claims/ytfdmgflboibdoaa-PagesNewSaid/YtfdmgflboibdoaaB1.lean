/-
  Contracts: pages of regions, regions of pages.
-/
import Derived.Test.YtfdmgflboibdoaaC2
import Derived.Test.YtfdmgflboibdoaaR8
import Derived.Test.YtfdmgflboibdoaaR9
import Derived.Test.YtfdmgflboibdoaaPBoot
set_option linter.unusedVariables false
namespace Go.Proofs.Ytfdmgflboibdoaa
open Go.RowKit

theorem inReg_take {l : List Region} {k : Nat} (hk : k < l.length) (i : Int) : inReg (l.take (k + 1)) i = (inReg (l.take k) i || (decide ((l[k]).From ≤ i) && decide (i < (l[k]).From + (l[k]).Size))) := by
  unfold inReg
  rw [List.take_succ_eq_append_getElem hk, List.any_append]
  simp only [List.any_cons, List.any_nil, Bool.or_false]

theorem marks0 : marksOf (fun i => inReg [] i) 256 = List.replicate 256 false := by
  apply List.ext_getElem (by rw [marksOf_len, List.length_replicate])
  intro j h1 h2
  rw [marksOf_get, List.getElem_replicate]
  rfl

theorem Bpages_ans (A : Option Addr) (n c : Nat) (l : List Region) (w : World) (hl : Sl w 2 encR A n l) (hok : ∀ r ∈ l, r.ok) (hn : n ≤ 9223372036854775807) :
    Ans Try.prog 85 [.slice A n c] w fun v w' => ∃ B d, v = .slice B 256 d ∧ Own w' w.heap.size 4 1 encB B 256 d (marksOf (fun i => inReg l i) 256) := by
  refine ans_of Try.func85 rfl Try.ntmps85 rfl ?_
  have hw := Ext.refl w
  have hA := hl.base
  repeat' (first | (show CW _ _ _ _ _ _; first | refine CW.seq ?_ | refine CW.region ?_) | (show Post _ _ _ _ _; refine Post.seq ?_) | refine SW.nil ?_ | refine SW.pure rfl rfl ?_)
  refine SW.make (enc := encB) (k := 256) false rfl rfl rfl (by omega) (by omega) rfl fun B d w1 hw1 hS => ?_
  have hlo := hw.size
  replace hw := Ext.trans hw hw1
  replace hS := Own.low hS hlo
  have hBs := hS.sl.base
  repeat' (first | (show CW _ _ _ _ _ _; first | refine CW.seq ?_ | refine CW.region ?_ | refine CW.block ?_) | (show Post _ _ _ _ _; refine Post.seq ?_) | refine SW.nil ?_ | refine SW.pure rfl rfl ?_ | (show SW _ _ _ _ (⟨_, Op.call ⟨.builtin .len, _, _⟩, _, _, _, none⟩ :: _) _ _; refine SW.st (st_len rfl) rfl ?_))
  refine CW.loop (fun k : Nat => [(3, .slice B 256 d), (8, .slice A n c), (9, .int .i64 (n : Int)), (10, .int .i64 (k : Int))])
    (fun k w' => k ≤ n ∧ Ext w w' ∧ Own w' w.heap.size 4 1 encB B 256 d (marksOf (fun i => inReg (l.take k) i) 256)) (fun k => n - k) 0 ⟨rfl, rfl, rfl, rfl, trivial⟩ ⟨by omega, hw, by
      have e : marksOf (fun i => inReg (l.take 0) i) 256 = List.replicate 256 false := marks0
      rw [e]; exact hS⟩ ?_
  clear hw hS
  rintro k w' ⟨hk, hw, hO⟩
  by_cases hkn : k < n
  · have hkl := hl.lt hkn
    have hrok := hok (l[k]) (List.getElem_mem hkl)
    obtain ⟨f, hf⟩ := Int.eq_ofNat_of_zero_le hrok.1
    obtain ⟨s, hs⟩ := Int.eq_ofNat_of_zero_le (show 0 ≤ (l[k]).Size by have := hrok.2.1; omega)
    have h256 := hrok.2.2.2
    repeat' (first | (show CW _ _ _ _ _ _; first | refine CW.seq ?_ | refine CW.region ?_ | refine CW.block ?_ | refine CW.condd_t rfl (by omega) ?_ | refine CW.skip ?_) | (show Post _ _ _ _ _; refine Post.seq ?_) | refine SW.nil ?_ | refine SW.pure rfl rfl ?_ | (show SW _ _ _ _ (⟨_, Op.indexAddr _ _ _, _, _, _, none⟩ :: _) _ _; refine SW.st (st_indexN rfl rfl (by assumption) (by omega)) rfl ?_) | (show SW _ _ _ _ (⟨_, Op.load _ _, _, _, _, none⟩ :: _) _ _; refine SW.st (st_loadsx hw rfl rfl ((hl.all hkn))) rfl ?_))
    refine SW.alloc rfl fun b w1 hw1 hb hB => ?_
    have hbw : w.heap.size ≤ b := Nat.le_trans hw.size hb
    replace hw := Ext.trans hw hw1
    replace hO := hO.ext hw1
    skip
    refine SW.storeAgg hB rfl rfl rfl rfl (Enc.one (enc := encR) _) fun w2 hB2 hg => ?_
    replace hw := hw.own hbw hg
    replace hO := hO.grown hg (.inr (hO.ne_blk hB rfl))
    repeat' (first | (show CW _ _ _ _ _ _; first | refine CW.seq ?_ | refine CW.region ?_ | refine CW.block ?_) | (show Post _ _ _ _ _; refine Post.seq ?_) | refine SW.nil ?_ | refine SW.pure rfl rfl ?_ | (show SW _ _ _ _ (⟨_, Op.fieldAddr _ _ _, _, _, _, none⟩ :: _) _ _; refine SW.st (st_field rfl) rfl ?_) | (show SW _ _ _ _ (⟨_, Op.load _ _, _, _, _, none⟩ :: _) _ _; refine SW.st (st_load rfl (hB2.cell rfl)) rfl ?_))
    refine CW.loop (fun j : Nat => [(3, .slice B 256 d), (5, .pointer (some ⟨b, 0, none⟩)), (6, .int .i64 ((f + j : Nat) : Int)), (8, .slice A n c), (9, .int .i64 (n : Int)), (10, .int .i64 (k : Int))])
      (fun j w' => j ≤ s ∧ Ext w w' ∧ Blk w' b 54 (encR (l[k])) ∧ Own w' w.heap.size 4 1 encB B 256 d (marksOf (fun i => inReg (l.take k) i || (decide (f ≤ i) && decide (i < f + j))) 256)) (fun j => s - j) 0
      ⟨rfl, rfl, by rw [hf]; rfl, rfl, rfl, rfl, trivial⟩ ⟨by omega, hw, hB2, by
        have e : marksOf (fun i => inReg (l.take k) i || (decide (f ≤ i) && decide (i < f + 0))) 256 = marksOf (fun i => inReg (l.take k) i) 256 := marksOf_congr fun i _ => by
          have : (decide (f ≤ i) && decide (i < f + 0)) = false := by
            rcases Nat.lt_or_ge i f with h | h
            · rw [decide_eq_false (by omega : ¬ f ≤ i)]; rfl
            · rw [decide_eq_false (by omega : ¬ i < f + 0), Bool.and_false]
          rw [this, Bool.or_false]
        rw [e]; exact hO⟩ ?_
    clear hw hO hB hB2 hg hw1
    rintro j w' ⟨hj, hw, hB2, hO⟩
    by_cases hjs : j < s
    · repeat' (first | (show CW _ _ _ _ _ _; first | refine CW.seq ?_ | refine CW.region ?_ | refine CW.block ?_ | refine CW.condd_t rfl (by omega) ?_ | refine CW.skip ?_) | (show Post _ _ _ _ _; refine Post.seq ?_) | refine SW.nil ?_ | refine SW.pure rfl rfl ?_ | (show SW _ _ _ _ (⟨_, Op.indexAddr _ _ _, _, _, _, none⟩ :: _) _ _; refine SW.st (st_indexN rfl rfl (by assumption) (by omega)) rfl ?_) | (show SW _ _ _ _ (⟨_, Op.load _ _, _, _, _, none⟩ :: _) _ _; refine SW.st (st_loads rfl rfl ((fun _ _ => hB2.cell))) rfl ?_) | (show SW _ _ _ _ (⟨_, Op.call ⟨.value (.func _), _, _⟩, _, _, _, none⟩ :: _) _ _; (refine SW.call rfl rfl (end_ok hrok _) ?_; intro v w1 hw1 hv; subst hv; replace hw := Ext.trans hw hw1; replace hB2 := hB2.ext hw1; replace hO := hO.ext hw1; clear hw1)))
      refine SW.storeO (f + j) 0 true hO rfl rfl rfl (by omega) (by omega) (by rw [add_zero]) rfl fun w3 hO3 hg => ?_
      replace hw := ext_grown hw hg (Nat.le_refl _) hO.row_ge
      replace hB2 := hB2.grown hg (fun e => hO.ne_blk hB2 rfl e.symm)
      rw [marksOf_set] at hO3
      repeat' (first | (show CW _ _ _ _ _ _; refine CW.region ?_) | (show Post _ _ _ _ _; first | refine Post.seq ?_ | refine Post.blk ?_) | refine SW.nil ?_ | refine SW.pure rfl rfl ?_ | (show SW _ _ _ _ (⟨_, Op.binOp _ _ _ _ _, _, _, _, none⟩ :: _) _ _; refine SW.st (st_add rfl rfl (by omega) (by omega)) rfl ?_))
      refine Post.again (j + 1) ⟨rfl, rfl, rfl, rfl, rfl, rfl, trivial⟩ (by omega) ⟨by omega, hw, hB2, ?_⟩
      have e : marksOf (fun i => inReg (l.take k) i || (decide (f ≤ i) && decide (i < f + (j + 1)))) 256 = marksOf (fun i => if i = f + j then true else inReg (l.take k) i || (decide (f ≤ i) && decide (i < f + j))) 256 := marksOf_congr fun i _ => by
        by_cases hi : i = f + j
        · subst hi
          have h1 : f ≤ f + j := by omega
          have h2 : f + j < f + (j + 1) := by omega
          simp [h1, h2]
        · have e2 : decide (i < f + (j + 1)) = decide (i < f + j) := by rw [decide_eq_decide]; omega
          simp [hi, e2]
      rw [e]; exact hO3
    · obtain rfl : j = s := by omega
      repeat' (first | (show CW _ _ _ _ _ _; first | refine CW.seq ?_ | refine CW.region ?_ | refine CW.condd_f rfl (by omega) ?_ | refine CW.exit ?_) | (show Post _ _ _ _ _; first | refine Post.seq ?_ | refine Post.seq_exit ?_ | refine Post.hit ?_ | refine Post.blk ?_ | refine Post.again_exit ?_) | refine SW.nil ?_ | refine SW.pure rfl rfl ?_ | (show SW _ _ _ _ (⟨_, Op.binOp _ _ _ _ _, _, _, _, none⟩ :: _) _ _; refine SW.st (st_add rfl rfl (by omega) (by omega)) rfl ?_) | (show SW _ _ _ _ (⟨_, Op.load _ _, _, _, _, none⟩ :: _) _ _; refine SW.st (st_loads rfl rfl ((fun _ _ => hB2.cell))) rfl ?_) | (show SW _ _ _ _ (⟨_, Op.call ⟨.value (.func _), _, _⟩, _, _, _, none⟩ :: _) _ _; (refine SW.call rfl rfl (end_ok hrok _) ?_; intro v w1 hw1 hv; subst hv; replace hw := Ext.trans hw hw1; replace hB2 := hB2.ext hw1; replace hO := hO.ext hw1; clear hw1)))
      refine Post.again (k + 1) ⟨rfl, rfl, rfl, rfl, trivial⟩ (by omega) ⟨by omega, hw, ?_⟩
      have e : marksOf (fun i => inReg (l.take (k + 1)) i) 256 = marksOf (fun i => inReg (l.take k) i || (decide (f ≤ i) && decide (i < f + j))) 256 := marksOf_congr fun i _ => by
        rw [inReg_take hkl, hf, hs]
        have e1 : decide (((f : Nat) : Int) ≤ (i : Int)) = decide (f ≤ i) := by rw [decide_eq_decide]; omega
        have e2 : decide ((i : Int) < ((f : Nat) : Int) + ((j : Nat) : Int)) = decide (i < f + j) := by rw [decide_eq_decide]; omega
        rw [e1, e2]
      rw [e]; exact hO
  · repeat' (first | (show CW _ _ _ _ _ _; first | refine CW.seq ?_ | refine CW.region ?_ | refine CW.condd_f rfl (by omega) ?_ | refine CW.ret ?_ | refine CW.exit ?_) | (show Post _ _ _ _ _; first | refine Post.seq ?_ | refine Post.seq_exit ?_ | refine Post.hit ?_ | refine Post.again_exit ?_) | refine SW.nil ?_ | refine SW.pure rfl rfl ?_)
    obtain rfl : k = n := by omega
    refine Post.ret1 rfl rfl ⟨_, rfl, hw, B, d, rfl, ?_⟩
    rwa [List.take_of_length_le (by have := hl.len; omega)] at hO
end Go.Proofs.Ytfdmgflboibdoaa
