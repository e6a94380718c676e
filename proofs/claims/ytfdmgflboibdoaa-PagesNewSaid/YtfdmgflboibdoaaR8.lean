/-
  Contracts: boot.Check and its reference; the law BootChecks.
-/
import Derived.Test.YtfdmgflboibdoaaR7
set_option linter.unusedVariables false
namespace Go.Proofs.Ytfdmgflboibdoaa
open Go.RowKit

theorem list_ans (A : Option Addr) (n c : Nat) (l : List Region) (w : World) (hl : Sl w 2 encR A n l) (hn : n ≤ 9223372036854775807) :
    Ans Try.prog 143 [.slice A n c] w fun v _ => v = .bool (regionsB l) := by
  refine ans_of Try.func143 rfl Try.ntmps143 rfl ?_
  have hw := Ext.refl w
  have hA := hl.base
  have hll := hl.len
  repeat' (first | (show CW _ _ _ _ _ _; first | refine CW.seq ?_ | refine CW.region ?_ | refine CW.block ?_ | refine CW.condd rfl (fun h => ?_) (fun h => ?_) | refine CW.skip ?_ | refine CW.ret ?_) | (show Post _ _ _ _ _; first | refine Post.seq ?_ | refine Post.seq_ret ?_) | refine SW.nil ?_ | refine SW.pure rfl rfl ?_ | (show SW _ _ _ _ (⟨_, Op.call ⟨.builtin .len, _, _⟩, _, _, _, none⟩ :: _) _ _; refine SW.st (st_len rfl) rfl ?_))
  · refine Post.ret1 rfl rfl ⟨_, rfl, hw, ?_⟩
    rw [regionsB_f (fun h => by have := h.1; omega)]
  · refine CW.loop (fun k : Nat => [(0, .slice A n c), (8, .slice A n c), (9, .int .i64 (n : Int)), (10, .int .i64 (k : Int))]) (fun k w' => k ≤ n ∧ Ext w w' ∧ ∀ (i : Nat) (h : i < l.length), i < k → (l[i]).ok ∧ ∀ (h0 : 0 < i), (l[i - 1]'(by omega)).From + (l[i - 1]'(by omega)).Size < (l[i]).From)
      (fun k => n - k) 0 ⟨rfl, rfl, rfl, rfl, trivial⟩ ⟨by omega, hw, fun i h hi => by omega⟩ ?_
    clear hw
    rintro k w' ⟨hk, hw, hI⟩
    by_cases hkn : k < n
    · have hkl := hl.lt hkn
      have hrow : ∀ {w1 w2 : World} {b : Nat}, Ext w w1 → w.heap.size ≤ b → w1.grownBy w2 (some b) → Ext w w2 := fun h1 h2 hg => ext_grown h1 hg (Nat.le_refl _) (fun k e => by cases e; exact h2)
      by_cases hok : (l[k]).ok
      · by_cases hk0 : k = 0
        · subst hk0
          repeat' (first | (show CW _ _ _ _ _ _; first | refine CW.seq ?_ | refine CW.region ?_ | refine CW.block ?_ | refine CW.condd_t rfl (by omega) ?_ | refine CW.skip ?_) | (show Post _ _ _ _ _; refine Post.seq ?_) | refine SW.nil ?_ | refine SW.pure rfl rfl ?_ | (show SW _ _ _ _ (⟨_, Op.indexAddr _ _ _, _, _, _, none⟩ :: _) _ _; refine SW.st (st_indexN rfl rfl (by assumption) (by omega)) rfl ?_) | (show SW _ _ _ _ (⟨_, Op.load _ _, _, _, _, none⟩ :: _) _ _; refine SW.st (st_loadsx hw rfl rfl ((hl.all hkn))) rfl ?_))
          refine SW.alloc rfl fun b w1 hw1 hb hB => ?_
          have hbw : w.heap.size ≤ b := Nat.le_trans hw.size hb
          replace hw := Ext.trans hw hw1
          repeat' (refine SW.pure rfl rfl ?_)
          refine SW.storeAgg hB rfl rfl rfl rfl (Enc.one (enc := encR) _) fun w2 hB2 hg => ?_
          replace hw := hrow hw hbw hg
          repeat' (first | (show CW _ _ _ _ _ _; first | refine CW.seq ?_ | refine CW.region ?_ | refine CW.condfr rfl (by with_reducible rfl) ?_ | refine CW.skip ?_ | (apply CW.quiet1 mixed; (· kernel_rfl); rotate_left; intro w1 hw1; replace hw := Ext.trans hw hw1; replace hB2 := hB2.ext hw1; clear hw1; rotate_right)) | (show Post _ _ _ _ _; first | refine Post.seq ?_ | refine Post.blk ?_) | refine SW.nil ?_ | (show SW _ _ _ _ (⟨_, _, _, _, _, some _⟩ :: _) _ _; first | refine SW.want_f rfl rfl (by with_reducible rfl) ?_ | refine SW.skip_t rfl rfl (by with_reducible rfl) rfl ?_ | refine SW.splitd_f rfl rfl rfl (by omega) ?_ | refine SW.splitn_f rfl rfl rfl (by omega) ?_) | refine SW.pure rfl rfl ?_ | (show SW _ _ _ _ (⟨_, Op.binOp _ _ _ _ _, _, _, _, none⟩ :: _) _ _; refine SW.st (st_add rfl rfl (by omega) (by omega)) rfl ?_) | (show SW _ _ _ _ (⟨_, Op.load _ _, _, _, _, none⟩ :: _) _ _; refine SW.st (st_loads rfl rfl ((fun _ _ => hB2.cell))) rfl ?_) | (show SW _ _ _ _ (⟨_, Op.call ⟨.value (.func _), _, _⟩, _, _, _, none⟩ :: _) _ _; refine SW.qcall rfl rfl (fun w1 hw1 => (CheckRegion_ok hok _)) ?_) | exact SW.qnil rfl)
          refine Post.again (0 + 1) ⟨rfl, rfl, rfl, rfl, trivial⟩ (by omega) ⟨by omega, hw, fun i h hi => ?_⟩
          obtain rfl : i = 0 := by omega
          exact ⟨hok, fun h0 => by omega⟩
        · obtain ⟨j, rfl⟩ : ∃ j, k = j + 1 := ⟨k - 1, by omega⟩
          have hj : j < n := by omega
          have hp := (hI j (hl.lt hj) (by omega)).1
          by_cases hlt : (l[j]'(hl.lt hj)).From + (l[j]'(hl.lt hj)).Size < (l[j + 1]).From
          all_goals
            repeat' (first | (show CW _ _ _ _ _ _; first | refine CW.seq ?_ | refine CW.region ?_ | refine CW.block ?_ | refine CW.condd_t rfl (by omega) ?_ | refine CW.skip ?_) | (show Post _ _ _ _ _; refine Post.seq ?_) | refine SW.nil ?_ | refine SW.pure rfl rfl ?_ | (show SW _ _ _ _ (⟨_, Op.indexAddr _ _ _, _, _, _, none⟩ :: _) _ _; refine SW.st (st_indexN rfl rfl (by assumption) (by omega)) rfl ?_) | (show SW _ _ _ _ (⟨_, Op.load _ _, _, _, _, none⟩ :: _) _ _; refine SW.st (st_loadsx hw rfl rfl ((hl.all hkn))) rfl ?_))
            refine SW.alloc rfl fun b w1 hw1 hb hB => ?_
            have hbw : w.heap.size ≤ b := Nat.le_trans hw.size hb
            replace hw := Ext.trans hw hw1
            repeat' (refine SW.pure rfl rfl ?_)
            refine SW.storeAgg hB rfl rfl rfl rfl (Enc.one (enc := encR) _) fun w2 hB2 hg => ?_
            replace hw := hrow hw hbw hg
            repeat' (first | (show CW _ _ _ _ _ _; first | refine CW.seq ?_ | refine CW.region ?_ | refine CW.condd_t rfl (by omega) ?_ | refine CW.condd_f rfl (by omega) ?_ | refine CW.skip ?_ | refine CW.ret ?_ | (apply CW.quiet1 mixed; (· kernel_rfl); rotate_left; intro w1 hw1; replace hw := Ext.trans hw hw1; replace hB2 := hB2.ext hw1; clear hw1; rotate_right)) | (show Post _ _ _ _ _; first | refine Post.seq ?_ | refine Post.seq_ret ?_ | refine Post.blk ?_ | refine Post.blk_ret ?_ | refine Post.again_ret ?_) | refine SW.nil ?_ | (show SW _ _ _ _ (⟨_, _, _, _, _, some _⟩ :: _) _ _; first | refine SW.want_t rfl rfl (by with_reducible rfl) ?_ | refine SW.want_f rfl rfl (by with_reducible rfl) ?_ | refine SW.splitd_t rfl rfl rfl (by omega) ?_ | refine SW.splitd_f rfl rfl rfl (by omega) ?_ | refine SW.splitn_f rfl rfl rfl (by omega) ?_) | refine SW.pure rfl rfl ?_ | (show SW _ _ _ _ (⟨_, Op.fieldAddr _ _ _, _, _, _, none⟩ :: _) _ _; refine SW.st (st_field rfl) rfl ?_) | (show SW _ _ _ _ (⟨_, Op.binOp _ _ _ _ _, _, _, _, none⟩ :: _) _ _; first | refine SW.st (st_add rfl rfl (by omega) (by omega)) rfl ?_ | refine SW.st (st_sub rfl rfl (by omega) (by omega)) rfl ?_) | (show SW _ _ _ _ (⟨_, Op.indexAddr _ _ _, _, _, _, none⟩ :: _) _ _; refine SW.st (st_indexI (j) rfl rfl (by assumption) (by omega) (by omega)) rfl ?_) | (show SW _ _ _ _ (⟨_, Op.load _ _, _, _, _, none⟩ :: _) _ _; first | refine SW.st (st_loads rfl rfl ((fun _ _ => hB2.cell))) rfl ?_ | refine SW.st (st_load rfl (hB2.cell rfl)) rfl ?_ | refine SW.st (st_loadsx hw rfl rfl ((hl.all hj))) rfl ?_) | (show SW _ _ _ _ (⟨_, Op.call ⟨.value (.func _), _, _⟩, _, _, _, none⟩ :: _) _ _; first | refine SW.qcall rfl rfl (fun w1 hw1 => (CheckRegion_ok hok _)) ?_ | refine SW.qcall rfl rfl (fun w1 hw1 => (end_ok hp _)) ?_) | exact SW.qnil rfl)
          · refine Post.again (j + 1 + 1) ⟨rfl, rfl, rfl, rfl, trivial⟩ (by omega) ⟨by omega, hw, fun i h hi => ?_⟩
            by_cases hij : i = j + 1
            · subst hij
              exact ⟨hok, fun _ => hlt⟩
            · exact hI i h (by omega)
          · refine Post.ret1 rfl rfl ⟨_, rfl, hw, ?_⟩
            rw [regionsB_f (fun h => hlt ((h.2 (j + 1) hkl).2 (by omega)))]
      · repeat' (first | (show CW _ _ _ _ _ _; first | refine CW.seq ?_ | refine CW.region ?_ | refine CW.block ?_ | refine CW.condd_t rfl (by omega) ?_ | refine CW.skip ?_) | (show Post _ _ _ _ _; refine Post.seq ?_) | refine SW.nil ?_ | refine SW.pure rfl rfl ?_ | (show SW _ _ _ _ (⟨_, Op.indexAddr _ _ _, _, _, _, none⟩ :: _) _ _; refine SW.st (st_indexN rfl rfl (by assumption) (by omega)) rfl ?_) | (show SW _ _ _ _ (⟨_, Op.load _ _, _, _, _, none⟩ :: _) _ _; refine SW.st (st_loadsx hw rfl rfl ((hl.all hkn))) rfl ?_))
        refine SW.alloc rfl fun b w1 hw1 hb hB => ?_
        have hbw : w.heap.size ≤ b := Nat.le_trans hw.size hb
        replace hw := Ext.trans hw hw1
        repeat' (refine SW.pure rfl rfl ?_)
        refine SW.storeAgg hB rfl rfl rfl rfl (Enc.one (enc := encR) _) fun w2 hB2 hg => ?_
        replace hw := hrow hw hbw hg
        repeat' (first | (show CW _ _ _ _ _ _; first | refine CW.seq ?_ | refine CW.region ?_ | refine CW.condtr rfl (by with_reducible rfl) ?_ | refine CW.ret ?_ | (apply CW.quiet1 mixed; (· kernel_rfl); rotate_left; intro w1 hw1; replace hw := Ext.trans hw hw1; replace hB2 := hB2.ext hw1; clear hw1; rotate_right)) | (show Post _ _ _ _ _; first | refine Post.seq ?_ | refine Post.seq_ret ?_ | refine Post.blk_ret ?_ | refine Post.again_ret ?_) | refine SW.nil ?_ | (show SW _ _ _ _ (⟨_, _, _, _, _, some _⟩ :: _) _ _; first | refine SW.skip_f rfl rfl (by with_reducible rfl) rfl ?_ | refine SW.skip_u rfl rfl (by with_reducible rfl) rfl ?_ | refine SW.splitn_t rfl rfl rfl (by omega) ?_) | refine SW.pure rfl rfl ?_ | (show SW _ _ _ _ (⟨_, Op.load _ _, _, _, _, none⟩ :: _) _ _; refine SW.st (st_loads rfl rfl ((fun _ _ => hB2.cell))) rfl ?_) | (show SW _ _ _ _ (⟨_, Op.call ⟨.value (.func _), _, _⟩, _, _, _, none⟩ :: _) _ _; refine SW.qcall rfl rfl (fun w1 hw1 => (CheckRegion_no hok _)) ?_) | exact SW.qnil rfl)
        refine Post.ret1 rfl rfl ⟨_, rfl, hw, ?_⟩
        rw [regionsB_f (fun h => hok (h.2 k hkl).1)]
    · repeat' (first | (show CW _ _ _ _ _ _; first | refine CW.seq ?_ | refine CW.region ?_ | refine CW.condd_f rfl (by omega) ?_ | refine CW.ret ?_ | refine CW.exit ?_) | (show Post _ _ _ _ _; first | refine Post.seq ?_ | refine Post.seq_exit ?_ | refine Post.hit ?_ | refine Post.again_exit ?_) | refine SW.nil ?_ | refine SW.pure rfl rfl ?_)
      refine Post.ret1 rfl rfl ⟨_, rfl, hw, ?_⟩
      rw [regionsB_t ⟨by omega, fun i h => hI i h (by omega)⟩]

/-- the cells of a Boot -/
def bootCells (A : Option Addr) (n c : Nat) (B : Option Addr) (m d : Nat) : List Value := [.slice A n c, .slice B m d]
noncomputable def bootB (x y : List Region) : Bool := regionsB x && regionsB y

theorem Check_ans (A : Option Addr) (n c : Nat) (B : Option Addr) (m d : Nat) (x y : List Region) (w : World) (hx : Sl w 2 encR A n x) (hy : Sl w 2 encR B m y) (hn : n ≤ 9223372036854775807) (hm : m ≤ 9223372036854775807) :
    Ans Try.prog 84 [.agg (bootCells A n c B m d).toArray] w fun v _ => v = .int .i64 (if bootB x y then 0 else 8) := by
  refine ans_of Try.func84 rfl Try.ntmps84 rfl ?_
  refine CW.seq (CW.region (SW.box rfl rfl fun b w1 hw hb hB => ?_))
  obtain ⟨bx, hxb⟩ : ∃ b, regionsB x = b := ⟨_, rfl⟩
  obtain ⟨bY, hyb⟩ : ∃ b, regionsB y = b := ⟨_, rfl⟩
  have l1 : ∀ w', Ext w w' → Ans Try.prog 143 [.slice A n c] w' fun v _ => v = .bool bx := fun w' h => by have := list_ans A n c x w' (hx.ext h) hn; rwa [hxb] at this
  have l2 : ∀ w', Ext w w' → Ans Try.prog 143 [.slice B m d] w' fun v _ => v = .bool bY := fun w' h => by have := list_ans B m d y w' (hy.ext h) hm; rwa [hyb] at this
  cases bx <;> cases bY
  all_goals
    repeat' (first | (show CW _ _ _ _ _ _; first | refine CW.seq ?_ | refine CW.region ?_ | refine CW.condtr rfl (by with_reducible rfl) ?_ | refine CW.condt rfl ?_ | refine CW.condf rfl ?_ | refine CW.skip ?_ | refine CW.ret ?_) | (show Post _ _ _ _ _; first | refine Post.seq ?_ | refine Post.seq_ret ?_) | refine SW.nil ?_ | (show SW _ _ _ _ (⟨_, _, _, _, _, some _⟩ :: _) _ _; first | refine SW.want rfl rfl ?_ | refine SW.skip rfl rfl rfl rfl ?_) | refine SW.pure rfl rfl ?_ | (show SW _ _ _ _ (⟨_, Op.fieldAddr _ _ _, _, _, _, none⟩ :: _) _ _; refine SW.st (st_field rfl) rfl ?_) | (show SW _ _ _ _ (⟨_, Op.load _ _, _, _, _, none⟩ :: _) _ _; refine SW.st (st_load rfl (hB.cell rfl)) rfl ?_) | (show SW _ _ _ _ (⟨_, Op.call ⟨.value (.func _), _, _⟩, _, _, _, none⟩ :: _) _ _; first | (refine SW.call rfl rfl (l1 _ hw) ?_; intro v w1 hw1 hv; subst hv; replace hw := Ext.trans hw hw1; replace hB := hB.ext hw1; clear hw1) | (refine SW.call rfl rfl (l2 _ hw) ?_; intro v w1 hw1 hv; subst hv; replace hw := Ext.trans hw hw1; replace hB := hB.ext hw1; clear hw1)))
    refine Post.ret1 rfl rfl ⟨_, rfl, hw, ?_⟩
    simp [bootB, hxb, hyb]

theorem BootMay_ans (A : Option Addr) (n c : Nat) (B : Option Addr) (m d : Nat) (x y : List Region) (w : World) (hx : Sl w 2 encR A n x) (hy : Sl w 2 encR B m y) (hn : n ≤ 9223372036854775807) (hm : m ≤ 9223372036854775807) :
    Ans Try.prog 87 [.agg (bootCells A n c B m d).toArray] w fun v _ => v = .bool (bootB x y) := by
  refine ans_of Try.func87 rfl Try.ntmps87 rfl ?_
  refine CW.seq (CW.region (SW.box rfl rfl fun b w1 hw hb hB => ?_))
  obtain ⟨bx, hxb⟩ : ∃ b, regionsB x = b := ⟨_, rfl⟩
  obtain ⟨bY, hyb⟩ : ∃ b, regionsB y = b := ⟨_, rfl⟩
  have l1 : ∀ w', Ext w w' → Ans Try.prog 122 [.slice A n c] w' fun v _ => v = .bool bx := fun w' h => by have := regionsMay_ans A n c x w' (hx.ext h) hn; rwa [hxb] at this
  have l2 : ∀ w', Ext w w' → Ans Try.prog 122 [.slice B m d] w' fun v _ => v = .bool bY := fun w' h => by have := regionsMay_ans B m d y w' (hy.ext h) hm; rwa [hyb] at this
  cases bx <;> cases bY
  all_goals
    repeat' (first | (show CW _ _ _ _ _ _; first | refine CW.seq ?_ | refine CW.region ?_ | refine CW.ret ?_) | (show Post _ _ _ _ _; refine Post.seq ?_) | refine SW.nil ?_ | (show SW _ _ _ _ (⟨_, _, _, _, _, some _⟩ :: _) _ _; first | refine SW.want_t rfl rfl (by with_reducible rfl) ?_ | refine SW.skip_t rfl rfl (by with_reducible rfl) rfl ?_) | refine SW.pure rfl rfl ?_ | (show SW _ _ _ _ (⟨_, Op.fieldAddr _ _ _, _, _, _, none⟩ :: _) _ _; refine SW.st (st_field rfl) rfl ?_) | (show SW _ _ _ _ (⟨_, Op.load _ _, _, _, _, none⟩ :: _) _ _; refine SW.st (st_load rfl (hB.cell rfl)) rfl ?_) | (show SW _ _ _ _ (⟨_, Op.call ⟨.value (.func _), _, _⟩, _, _, _, none⟩ :: _) _ _; first | (refine SW.call rfl rfl (l1 _ hw) ?_; intro v w1 hw1 hv; subst hv; replace hw := Ext.trans hw hw1; replace hB := hB.ext hw1; clear hw1) | (refine SW.call rfl rfl (l2 _ hw) ?_; intro v w1 hw1 hv; subst hv; replace hw := Ext.trans hw hw1; replace hB := hB.ext hw1; clear hw1)))
    refine Post.ret1 rfl rfl ⟨_, rfl, hw, ?_⟩
    simp [bootB, hxb, hyb]

end Go.Proofs.Ytfdmgflboibdoaa