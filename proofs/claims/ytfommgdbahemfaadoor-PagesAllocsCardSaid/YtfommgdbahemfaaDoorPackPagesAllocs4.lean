/-
  Texts of the claim PagesAllocs, part 4: what its theorem leans on.
-/
import Derived.Test.YtfommgdbahemfaaDoorPackPagesAllocs3
set_option linter.unusedVariables false
namespace Go.Proofs.YtfommgdbahemfaaDoor
open Go.RowKit
section
variable {P : Program} {L : Env} {w : World} {d : Option Nat} {T : TypeId} {pos : String} {af : Array Edge} {g : Option (Nat × Bool)}
theorem st_xor {t ty : TypeId} {x y : Operand} {i j : Int} (a b : Nat) (hx : opv L x = some (.int .i64 i)) (hy : opv L y = some (.int .i64 j)) (ha : i = (a : Int)) (hb : j = (b : Int)) (ha' : a < 9223372036854775808) (hb' : b < 9223372036854775808) :
  St P ⟨d, .binOp .xor t x y ty, T, pos, af, g⟩ L w (.int .i64 ((a ^^^ b : Nat) : Int)) :=
 ⟨fun n A hA w' _ => by
  have e1 := hA.eval hx
  have e2 := hA.eval hy
  subst ha hb
  generalize A.eval = ρ at *
  have hlt : a ^^^ b < 2 ^ 63 := Nat.xor_lt_two_pow (by omega) (by omega)
  have e : (BitVec.ofInt 64 (a : Int) ^^^ BitVec.ofInt 64 (b : Int)).toNat = a ^^^ b := by
   rw [BitVec.toNat_xor, BitVec.ofInt_natCast, BitVec.ofInt_natCast, BitVec.toNat_ofNat, BitVec.toNat_ofNat, Nat.mod_eq_of_lt (by omega), Nat.mod_eq_of_lt (by omega)]
  have hb1 : (Op.intBits .xor .i64 (a : Int) (b : Int)).run P w' = .ok (.int .i64 ((a ^^^ b : Nat) : Int)) w' := by
   have : Op.intBits .xor .i64 (a : Int) (b : Int) = (pure (.int .i64 (IntKind.i64.wrap ((BitVec.ofInt 64 (a : Int) ^^^ BitVec.ofInt 64 (b : Int)).toNat : Nat))) : Sem Value) := rfl
   rw [this, e, wrap_in (by omega) (by omega)]
   rfl
  have hb2 : (binOp .xor t (.int .i64 (a : Int)) (.int .i64 (b : Int))).run P w' = .ok (.int .i64 ((a ^^^ b : Nat) : Int)) w' := by
   have : binOp .xor t (.int .i64 (a : Int)) (.int .i64 (b : Int)) = Op.intBits .xor .i64 (a : Int) (b : Int) := by simp [binOp]
   rw [this, hb1]
  simp [execOp, e1, e2, eqGuard, hb2]⟩
theorem st_beside {t ty : TypeId} {x y : Operand} {i j : Int} (a o : Int) (hx : opv L x = some (.int .i64 i)) (hy : opv L y = some (.int .i64 j)) (hi : i = a) (hj : j = pw o) (h : 0 ≤ a ∧ a < 256 ∧ 0 ≤ o ∧ o < 4 ∧ a % pw o = 0) :
  St P ⟨d, .binOp .xor t x y ty, T, pos, af, g⟩ L w (.int .i64 (beside a o)) := by
 obtain ⟨h1, h2, h3, h4, h5⟩ := h
 subst hi hj
 obtain ⟨k, rfl⟩ := Int.eq_ofNat_of_zero_le h1
 have hp := pw_le h3 (by omega)
 have e : pw o = ((2 ^ o.toNat : Nat) : Int) := by unfold pw; simp
 have hlt : (2 ^ o.toNat : Nat) < 9223372036854775808 := by omega
 have := st_xor (P := P) (t := t) (ty := ty) (w := w) (d := d) (T := T) (pos := pos) (af := af) (g := g) k (2 ^ o.toNat) hx hy rfl e (by omega) hlt
 rw [xor_beside (by omega) h3 h4 h5] at this
 exact this
end
theorem power_ans (z : Int) (h : 0 ≤ z ∧ z ≤ 5) (w : World) : Ans Tryd.prog 30 [.int .i64 z] w fun v _ => v = .int .i64 (pw z) := by
 refine ans_of Tryd.func30 rfl Tryd.ntmps30 rfl ?_
 have hw := Ext.refl w
 obtain ⟨m, rfl⟩ := Int.eq_ofNat_of_zero_le h.1
 repeat' (first | (show CW _ _ _ _ _ _; first | refine CW.seq ?_ | refine CW.region ?_ | refine CW.block ?_) | (show Post _ _ _ _ _; refine Post.seq ?_) | refine SW.nil ?_ | refine SW.pure rfl rfl ?_)
 refine CW.loop (fun k : Nat => [(0, .int .i64 ((m - k : Nat) : Int)), (3, .int .i64 (pw k))]) (fun k w' => k ≤ m ∧ Ext w w') (fun k => m - k) 0 ⟨by simp; rfl, rfl, trivial⟩ ⟨by omega, hw⟩ ?_
 clear hw
 rintro k w' ⟨hk, hw⟩
 by_cases hkm : k < m
 ·have hp := pw_le (o := (k : Int)) (by omega) (by omega)
  have hs := pw_succ (o := (k : Int)) (by omega) (by omega)
  repeat' (first | (show CW _ _ _ _ _ _; first | refine CW.seq ?_ | refine CW.region ?_ | refine CW.block ?_ | refine CW.condd_t rfl (by omega) ?_ | refine CW.skip ?_) | (show Post _ _ _ _ _; first | refine Post.seq ?_ | refine Post.blk ?_) | refine SW.nil ?_ | refine SW.pure rfl rfl ?_ | (show SW _ _ _ _ (⟨_, Op.binOp _ _ _ _ _, _, _, _, none⟩ :: _) _ _; first | refine SW.st (st_sub rfl rfl (by omega) (by omega)) rfl ?_ | refine SW.st (st_mul rfl rfl (by omega) (by omega)) rfl ?_))
  have e1 : ((m - k : Nat) : Int) - 1 = ((m - (k + 1) : Nat) : Int) := by omega
  have e2 : 2 * pw (k : Int) = pw ((k + 1 : Nat) : Int) := by rw [← hs]; rfl
  exact Post.again (k + 1) ⟨congrArg (fun z => some (Value.int .i64 z)) e1, congrArg (fun z => some (Value.int .i64 z)) e2, trivial⟩ (by omega) ⟨by omega, hw⟩
 ·obtain rfl : k = m := by omega
  repeat' (first | (show CW _ _ _ _ _ _; first | refine CW.seq ?_ | refine CW.region ?_ | refine CW.condd_f rfl (by omega) ?_ | refine CW.ret ?_ | refine CW.exit ?_) | (show Post _ _ _ _ _; first | refine Post.seq ?_ | refine Post.seq_exit ?_ | refine Post.hit ?_ | refine Post.again_exit ?_) | refine SW.nil ?_ | refine SW.pure rfl rfl ?_)
  exact Post.ret1 rfl rfl ⟨_, rfl, hw, rfl⟩
theorem Zfits_ans (r : ZRow) (b : Block) (w : World) (h0 : 0 ≤ r.From) : Ans Tryd.prog 55 [.agg (encZ r).toArray, .agg (encBk b).toArray] w fun v _ => v = .bool (decide (fitsZ r.From r.To b.At b.Order)) := by
 refine ans_of Tryd.func55 rfl Tryd.ntmps55 rfl ?_
 refine CW.seq (CW.region (SW.box rfl rfl fun b1 w1 hw hb1 h1 => ?_))
 refine SW.box rfl rfl fun b2 w2 hw2 hb2 h2 => ?_
 (replace hw := Ext.trans hw hw2; replace h1 := h1.ext hw2)
 by_cases hf : fitsZ r.From r.To b.At b.Order
 ·obtain ⟨a1, a2, a3, a4, a5⟩ := id hf
  have hp := pw_le a1 a2
  rw [decide_eq_true hf]
  have e : b.At.tmod (pw b.Order) = 0 := by rw [Int.tmod_eq_emod_of_nonneg (by omega)]; exact a5
  repeat' (first | (show CW _ _ _ _ _ _; first | refine CW.seq ?_ | refine CW.ret ?_ | (apply CW.quiet1 mixed; (· kernel_rfl); rotate_left; intro w1 hw1; replace hw := Ext.trans hw hw1; replace h1 := h1.ext hw1; replace h2 := h2.ext hw1; clear hw1; rotate_right)) | (show Post _ _ _ _ _; refine Post.seq ?_) | refine SW.nil ?_ | (show SW _ _ _ _ (⟨_, _, _, _, _, some _⟩ :: _) _ _; first | refine SW.want_t rfl rfl (by with_reducible rfl) ?_ | refine SW.splitd_t rfl rfl rfl (by omega) ?_) | refine SW.pure rfl rfl ?_ | (show SW _ _ _ _ (⟨_, Op.fieldAddr _ _ _, _, _, _, none⟩ :: _) _ _; refine SW.st (st_field rfl) rfl ?_) | (show SW _ _ _ _ (⟨_, Op.binOp _ _ _ _ _, _, _, _, none⟩ :: _) _ _; refine SW.st (st_rem rfl rfl (by omega)) rfl ?_) | (show SW _ _ _ _ (⟨_, Op.load _ _, _, _, _, none⟩ :: _) _ _; first | refine SW.st (st_load rfl (h1.cell rfl)) rfl ?_ | refine SW.st (st_load rfl (h2.cell rfl)) rfl ?_) | (refine SW.st (st_shl (r := pw b.Order) rfl rfl (by omega) (by omega) (by simp [pw]) (by omega) (by omega)) rfl ?_) | exact SW.qnil rfl)
  exact Post.ret1 rfl rfl ⟨_, rfl, hw, by simp [e]⟩
 ·rw [decide_eq_false hf]
  by_cases a1 : 0 ≤ b.Order
  ·by_cases a2 : b.Order ≤ 4
   ·by_cases a3 : r.From ≤ b.At
    ·by_cases a4 : b.At < r.To
     ·have hp := pw_le a1 a2
      have e : b.At.tmod (pw b.Order) ≠ 0 := by
       rw [Int.tmod_eq_emod_of_nonneg (by omega)]
       exact fun a5 => hf ⟨a1, a2, a3, a4, a5⟩
      repeat' (first | (show CW _ _ _ _ _ _; first | refine CW.seq ?_ | refine CW.ret ?_ | (apply CW.quiet1 mixed; (· kernel_rfl); rotate_left; intro w1 hw1; replace hw := Ext.trans hw hw1; replace h1 := h1.ext hw1; replace h2 := h2.ext hw1; clear hw1; rotate_right)) | (show Post _ _ _ _ _; refine Post.seq ?_) | refine SW.nil ?_ | (show SW _ _ _ _ (⟨_, _, _, _, _, some _⟩ :: _) _ _; first | refine SW.want_t rfl rfl (by with_reducible rfl) ?_ | refine SW.splitd_t rfl rfl rfl (by omega) ?_) | refine SW.pure rfl rfl ?_ | (show SW _ _ _ _ (⟨_, Op.fieldAddr _ _ _, _, _, _, none⟩ :: _) _ _; refine SW.st (st_field rfl) rfl ?_) | (show SW _ _ _ _ (⟨_, Op.binOp _ _ _ _ _, _, _, _, none⟩ :: _) _ _; refine SW.st (st_rem rfl rfl (by omega)) rfl ?_) | (show SW _ _ _ _ (⟨_, Op.load _ _, _, _, _, none⟩ :: _) _ _; first | refine SW.st (st_load rfl (h1.cell rfl)) rfl ?_ | refine SW.st (st_load rfl (h2.cell rfl)) rfl ?_) | (refine SW.st (st_shl (r := pw b.Order) rfl rfl (by omega) (by omega) (by simp [pw]) (by omega) (by omega)) rfl ?_) | exact SW.qnil rfl)
      exact Post.ret1 rfl rfl ⟨_, rfl, hw, by simp [e]⟩
     ·repeat' (first | (show CW _ _ _ _ _ _; first | refine CW.seq ?_ | refine CW.ret ?_ | (apply CW.quiet1 mixed; (· kernel_rfl); rotate_left; intro w1 hw1; replace hw := Ext.trans hw hw1; replace h1 := h1.ext hw1; replace h2 := h2.ext hw1; clear hw1; rotate_right)) | (show Post _ _ _ _ _; refine Post.seq ?_) | refine SW.nil ?_ | (show SW _ _ _ _ (⟨_, _, _, _, _, some _⟩ :: _) _ _; first | refine SW.want_t rfl rfl (by with_reducible rfl) ?_ | refine SW.skip_t rfl rfl (by with_reducible rfl) rfl ?_ | refine SW.splitd_t rfl rfl rfl (by omega) ?_ | refine SW.splitd_f rfl rfl rfl (by omega) ?_) | refine SW.pure rfl rfl ?_ | (show SW _ _ _ _ (⟨_, Op.fieldAddr _ _ _, _, _, _, none⟩ :: _) _ _; refine SW.st (st_field rfl) rfl ?_) | (show SW _ _ _ _ (⟨_, Op.load _ _, _, _, _, none⟩ :: _) _ _; first | refine SW.st (st_load rfl (h1.cell rfl)) rfl ?_ | refine SW.st (st_load rfl (h2.cell rfl)) rfl ?_) | exact SW.qnil rfl)
      exact Post.ret1 rfl rfl ⟨_, rfl, hw, by simp [*]⟩
    ·repeat' (first | (show CW _ _ _ _ _ _; first | refine CW.seq ?_ | refine CW.ret ?_ | (apply CW.quiet1 mixed; (· kernel_rfl); rotate_left; intro w1 hw1; replace hw := Ext.trans hw hw1; replace h1 := h1.ext hw1; replace h2 := h2.ext hw1; clear hw1; rotate_right)) | (show Post _ _ _ _ _; refine Post.seq ?_) | refine SW.nil ?_ | (show SW _ _ _ _ (⟨_, _, _, _, _, some _⟩ :: _) _ _; first | refine SW.want_t rfl rfl (by with_reducible rfl) ?_ | refine SW.skip_t rfl rfl (by with_reducible rfl) rfl ?_ | refine SW.splitd_t rfl rfl rfl (by omega) ?_ | refine SW.splitd_f rfl rfl rfl (by omega) ?_) | refine SW.pure rfl rfl ?_ | (show SW _ _ _ _ (⟨_, Op.fieldAddr _ _ _, _, _, _, none⟩ :: _) _ _; refine SW.st (st_field rfl) rfl ?_) | (show SW _ _ _ _ (⟨_, Op.load _ _, _, _, _, none⟩ :: _) _ _; first | refine SW.st (st_load rfl (h1.cell rfl)) rfl ?_ | refine SW.st (st_load rfl (h2.cell rfl)) rfl ?_) | exact SW.qnil rfl)
     exact Post.ret1 rfl rfl ⟨_, rfl, hw, by simp [*]⟩
   ·repeat' (first | (show CW _ _ _ _ _ _; first | refine CW.seq ?_ | refine CW.ret ?_ | (apply CW.quiet1 mixed; (· kernel_rfl); rotate_left; intro w1 hw1; replace hw := Ext.trans hw hw1; replace h1 := h1.ext hw1; replace h2 := h2.ext hw1; clear hw1; rotate_right)) | (show Post _ _ _ _ _; refine Post.seq ?_) | refine SW.nil ?_ | (show SW _ _ _ _ (⟨_, _, _, _, _, some _⟩ :: _) _ _; first | refine SW.want_t rfl rfl (by with_reducible rfl) ?_ | refine SW.skip_t rfl rfl (by with_reducible rfl) rfl ?_ | refine SW.splitd_t rfl rfl rfl (by omega) ?_ | refine SW.splitd_f rfl rfl rfl (by omega) ?_) | refine SW.pure rfl rfl ?_ | (show SW _ _ _ _ (⟨_, Op.fieldAddr _ _ _, _, _, _, none⟩ :: _) _ _; refine SW.st (st_field rfl) rfl ?_) | (show SW _ _ _ _ (⟨_, Op.load _ _, _, _, _, none⟩ :: _) _ _; refine SW.st (st_load rfl (h2.cell rfl)) rfl ?_) | exact SW.qnil rfl)
    exact Post.ret1 rfl rfl ⟨_, rfl, hw, by simp [*]⟩
  ·repeat' (first | (show CW _ _ _ _ _ _; first | refine CW.seq ?_ | refine CW.ret ?_ | (apply CW.quiet1 mixed; (· kernel_rfl); rotate_left; intro w1 hw1; replace hw := Ext.trans hw hw1; replace h1 := h1.ext hw1; replace h2 := h2.ext hw1; clear hw1; rotate_right)) | (show Post _ _ _ _ _; refine Post.seq ?_) | refine SW.nil ?_ | (show SW _ _ _ _ (⟨_, _, _, _, _, some _⟩ :: _) _ _; first | refine SW.skip_t rfl rfl (by with_reducible rfl) rfl ?_ | refine SW.splitd_f rfl rfl rfl (by omega) ?_) | refine SW.pure rfl rfl ?_ | (show SW _ _ _ _ (⟨_, Op.fieldAddr _ _ _, _, _, _, none⟩ :: _) _ _; refine SW.st (st_field rfl) rfl ?_) | (show SW _ _ _ _ (⟨_, Op.load _ _, _, _, _, none⟩ :: _) _ _; refine SW.st (st_load rfl (h2.cell rfl)) rfl ?_) | exact SW.qnil rfl)
   exact Post.ret1 rfl rfl ⟨_, rfl, hw, by simp [*]⟩
theorem Zend_ans (b : Block) (w : World) (h : 0 ≤ b.Order ∧ b.Order ≤ 4) (ha : 0 ≤ b.At ∧ b.At ≤ 256) : Ans Tryd.prog 23 [.agg (encBk b).toArray] w fun v _ => v = .int .i64 (b.At + pw b.Order) := by
 refine ans_of Tryd.func23 rfl Tryd.ntmps23 rfl ?_
 refine CW.seq (CW.region (SW.box rfl rfl fun b1 w1 hw hb1 h1 => ?_))
 have hp := pw_le h.1 h.2
 repeat' (first | (show CW _ _ _ _ _ _; first | refine CW.seq ?_ | refine CW.ret ?_ | (apply CW.quiet1 mixed; (· kernel_rfl); rotate_left; intro w1 hw1; replace hw := Ext.trans hw hw1; replace h1 := h1.ext hw1; clear hw1; rotate_right)) | (show Post _ _ _ _ _; refine Post.seq ?_) | refine SW.nil ?_ | refine SW.pure rfl rfl ?_ | (show SW _ _ _ _ (⟨_, Op.fieldAddr _ _ _, _, _, _, none⟩ :: _) _ _; refine SW.st (st_field rfl) rfl ?_) | (show SW _ _ _ _ (⟨_, Op.binOp _ _ _ _ _, _, _, _, none⟩ :: _) _ _; refine SW.st (st_add rfl rfl (by omega) (by omega)) rfl ?_) | (show SW _ _ _ _ (⟨_, Op.load _ _, _, _, _, none⟩ :: _) _ _; refine SW.st (st_load rfl (h1.cell rfl)) rfl ?_) | (refine SW.st (st_shl (r := pw b.Order) rfl rfl (by omega) (by omega) (by simp [pw]) (by omega) (by omega)) rfl ?_) | exact SW.qnil rfl)
 exact Post.ret1 rfl rfl ⟨_, rfl, hw, rfl⟩
theorem blockMay_ans (r : ZRow) (a o : Int) (w : World) (h0 : 0 ≤ r.From ∧ r.From ≤ 256) (h1 : 0 ≤ r.To ∧ r.To ≤ 256) : Ans Tryd.prog 65 [.agg (encZ r).toArray, .int .i64 a, .int .i64 o] w fun v _ => v = .bool (decide (fitsZ r.From r.To a o)) := by
 refine ans_of Tryd.func65 rfl Tryd.ntmps65 rfl ?_
 refine CW.seq (CW.region (SW.box rfl rfl fun b1 w1 hw hb1 hB => ?_))
 by_cases a1 : 0 ≤ o ∧ o ≤ 4
 ·by_cases a2 : r.From ≤ a ∧ a < r.To
  ·have hp := pw_le a1.1 a1.2
   have e : a.tmod (pw o) = a % pw o := Int.tmod_eq_emod_of_nonneg (by omega)
   repeat' (first | (show CW _ _ _ _ _ _; first | refine CW.seq ?_ | refine CW.region ?_ | refine CW.ret ?_) | (show Post _ _ _ _ _; refine Post.seq ?_) | refine SW.nil ?_ | (show SW _ _ _ _ (⟨_, _, _, _, _, some _⟩ :: _) _ _; first | refine SW.want_t rfl rfl (by with_reducible rfl) ?_ | refine SW.splitd_t rfl rfl rfl (by omega) ?_) | refine SW.pure rfl rfl ?_ | (show SW _ _ _ _ (⟨_, Op.fieldAddr _ _ _, _, _, _, none⟩ :: _) _ _; refine SW.st (st_field rfl) rfl ?_) | (show SW _ _ _ _ (⟨_, Op.binOp _ _ _ _ _, _, _, _, none⟩ :: _) _ _; first | refine SW.st (st_sub rfl rfl (by omega) (by omega)) rfl ?_ | refine SW.st (st_rem rfl rfl (by omega)) rfl ?_) | (show SW _ _ _ _ (⟨_, Op.load _ _, _, _, _, none⟩ :: _) _ _; refine SW.st (st_load rfl (hB.cell rfl)) rfl ?_) | (show SW _ _ _ _ (⟨_, Op.call ⟨.value (.func _), _, _⟩, _, _, _, none⟩ :: _) _ _; first | (refine SW.call rfl rfl (In_ans _ _ _ _) ?_; intro v w1 hw1 hv; subst hv; replace hw := Ext.trans hw hw1; replace hB := hB.ext hw1; clear hw1) | (refine SW.call rfl rfl (power_ans _ (by omega) _) ?_; intro v w1 hw1 hv; subst hv; replace hw := Ext.trans hw hw1; replace hB := hB.ext hw1; clear hw1)))
   all_goals first | (exfalso; omega) | skip
   refine Post.ret1 rfl rfl ⟨_, rfl, hw, ?_⟩
   rw [e]
   simp [fitsZ, a1.1, a1.2, a2.1, a2.2]
  ·repeat' (first | (show CW _ _ _ _ _ _; first | refine CW.seq ?_ | refine CW.region ?_ | refine CW.ret ?_) | (show Post _ _ _ _ _; refine Post.seq ?_) | refine SW.nil ?_ | (show SW _ _ _ _ (⟨_, _, _, _, _, some _⟩ :: _) _ _; first | refine SW.want_t rfl rfl (by with_reducible rfl) ?_ | refine SW.skip_t rfl rfl (by with_reducible rfl) rfl ?_ | refine SW.splitd_t rfl rfl rfl (by omega) ?_ | refine SW.splitd_f rfl rfl rfl (by omega) ?_) | refine SW.pure rfl rfl ?_ | (show SW _ _ _ _ (⟨_, Op.fieldAddr _ _ _, _, _, _, none⟩ :: _) _ _; refine SW.st (st_field rfl) rfl ?_) | (show SW _ _ _ _ (⟨_, Op.binOp _ _ _ _ _, _, _, _, none⟩ :: _) _ _; refine SW.st (st_sub rfl rfl (by omega) (by omega)) rfl ?_) | (show SW _ _ _ _ (⟨_, Op.load _ _, _, _, _, none⟩ :: _) _ _; refine SW.st (st_load rfl (hB.cell rfl)) rfl ?_) | (show SW _ _ _ _ (⟨_, Op.call ⟨.value (.func _), _, _⟩, _, _, _, none⟩ :: _) _ _; (refine SW.call rfl rfl (In_ans _ _ _ _) ?_; intro v w1 hw1 hv; subst hv; replace hw := Ext.trans hw hw1; replace hB := hB.ext hw1; clear hw1)))
   all_goals first | (exfalso; omega) | skip
   refine Post.ret1 rfl rfl ⟨_, rfl, hw, ?_⟩
   rw [decide_eq_false (fun h => a2 ⟨h.2.2.1, h.2.2.2.1⟩)]
   try (simp; omega)
 ·repeat' (first | (show CW _ _ _ _ _ _; first | refine CW.seq ?_ | refine CW.region ?_ | refine CW.ret ?_) | (show Post _ _ _ _ _; refine Post.seq ?_) | refine SW.nil ?_ | (show SW _ _ _ _ (⟨_, _, _, _, _, some _⟩ :: _) _ _; first | refine SW.skip_t rfl rfl (by with_reducible rfl) rfl ?_ | refine SW.splitd_f rfl rfl rfl (by omega) ?_) | refine SW.pure rfl rfl ?_ | (show SW _ _ _ _ (⟨_, Op.call ⟨.value (.func _), _, _⟩, _, _, _, none⟩ :: _) _ _; (refine SW.call rfl rfl (In_ans _ _ _ _) ?_; intro v w1 hw1 hv; subst hv; replace hw := Ext.trans hw hw1; replace hB := hB.ext hw1; clear hw1)))
  all_goals first | (exfalso; omega) | skip
  refine Post.ret1 rfl rfl ⟨_, rfl, hw, ?_⟩
  rw [decide_eq_false (fun h => a1 ⟨h.1, h.2.1⟩)]
  try (simp; omega)
theorem idxOf_hit {α : Type} {p : α → Bool} {l : List α} {k : Nat} (h : k < l.length) (hp : p l[k] = true) (hf : ∀ j (hj : j < l.length), j < k → p l[j] = false) : idxOf p l = (k : Int) := by
 have e : l.findIdx p = k := (List.findIdx_eq h).2 ⟨hp, fun j hj => hf j (by omega) hj⟩
 have e2 : l.any p = true := List.any_eq_true.2 ⟨l[k], List.getElem_mem h, hp⟩
 simp [idxOf, e, e2]
theorem idxOf_none {α : Type} {p : α → Bool} {l : List α} (hf : ∀ j (hj : j < l.length), p l[j] = false) : idxOf p l = -1 ∧ l.any p = false := by
 have e : l.any p = false := by
  rw [List.any_eq_false]
  intro x hx
  obtain ⟨j, hj, rfl⟩ := List.getElem_of_mem hx
  simp [hf j hj]
 exact ⟨by simp [idxOf, e], e⟩
theorem idxOf_ge {α : Type} (p : α → Bool) (l : List α) : decide (0 ≤ idxOf p l) = l.any p := by
 unfold idxOf
 by_cases h : l.any p = true
 ·simp [h]
 ·simp [h]
theorem IndexFuncInt_ans (A : Option Addr) (n c : Nat) (l : List Int) (w : World) (hl : Sl w 1 encI A n l) (f : FuncId) (cap : List Value) [Body Tryd.prog f] (p : Int → Bool) (arg : Int → Value) (harg : ∀ x, arg x = (if 1 = 1 then (encI x)[0]?.getD undef else .agg (encI x).toArray))
  (hf : ∀ x ∈ l, ∀ w', Ext w w' → Ans Tryd.prog f ([arg x] ++ cap) w' fun v _ => v = .bool (p x)) (hn : n ≤ 9223372036854775807) :
  Ans Tryd.prog 101 [.slice A n c, .func (.func f) #[] cap.toArray] w fun v _ => v = .int .i64 (idxOf p l) := by
 refine ans_of Tryd.func101 rfl Tryd.ntmps101 rfl ?_
 have hw := Ext.refl w
 have hA := hl.base
 repeat' (first | (show CW _ _ _ _ _ _; first | refine CW.seq ?_ | refine CW.region ?_ | refine CW.block ?_) | (show Post _ _ _ _ _; refine Post.seq ?_) | refine SW.nil ?_ | refine SW.pure rfl rfl ?_ | (show SW _ _ _ _ (⟨_, Op.call ⟨.builtin .len, _, _⟩, _, _, _, none⟩ :: _) _ _; refine SW.st (st_len rfl) rfl ?_))
 refine CW.loop (fun k : Nat => [(0, .slice A n c), (1, .func (.func f) #[] cap.toArray), (7, .int .i64 (n : Int)), (8, .int .i64 (k : Int))]) (fun k w' => k ≤ n ∧ Ext w w' ∧ ∀ j (hj : j < l.length), j < k → p l[j] = false) (fun k => n - k) 0 ⟨rfl, rfl, rfl, rfl, trivial⟩ ⟨by omega, hw, fun j _ h => by omega⟩ ?_
 clear hw
 rintro k w' ⟨hk', hw, hI⟩
 by_cases hk : k < n
 ·have hx := harg (l[k]'(hl.lt hk))
  have hfk := hf (l[k]'(hl.lt hk)) (List.getElem_mem _)
  rw [hx] at hfk
  repeat' (first | (show CW _ _ _ _ _ _; first | refine CW.seq ?_ | refine CW.region ?_ | refine CW.block ?_ | refine CW.condd_t rfl (by omega) ?_ | refine CW.skip ?_) | (show Post _ _ _ _ _; refine Post.seq ?_) | refine SW.nil ?_ | refine SW.pure rfl rfl ?_ | (show SW _ _ _ _ (⟨_, Op.indexAddr _ _ _, _, _, _, none⟩ :: _) _ _; refine SW.st (st_indexN rfl rfl (by assumption) (by omega)) rfl ?_) | (show SW _ _ _ _ (⟨_, Op.load _ _, _, _, _, none⟩ :: _) _ _; refine SW.st (st_loadx hw rfl (hl.one hk rfl)) rfl ?_))
  refine SW.callv rfl rfl rfl (hfk _ hw) fun v w1 hw1 hv => ?_
  subst hv
  replace hw := Ext.trans hw hw1
  cases hp : p (l[k]'(hl.lt hk))
  ·repeat' (first | (show CW _ _ _ _ _ _; first | refine CW.region ?_ | refine CW.condfr rfl (by with_reducible rfl) ?_ | refine CW.skip ?_) | (show Post _ _ _ _ _; first | refine Post.seq ?_ | refine Post.blk ?_) | refine SW.nil ?_ | refine SW.pure rfl rfl ?_ | (show SW _ _ _ _ (⟨_, Op.binOp _ _ _ _ _, _, _, _, none⟩ :: _) _ _; refine SW.st (st_add rfl rfl (by omega) (by omega)) rfl ?_))
   refine Post.again (k + 1) ⟨rfl, rfl, rfl, rfl, trivial⟩ (by omega) ⟨by omega, hw, fun j hj h => ?_⟩
   by_cases hjk : j = k
   ·subst hjk; exact hp
   ·exact hI j hj (by omega)
  ·repeat' (first | (show CW _ _ _ _ _ _; first | refine CW.seq ?_ | refine CW.region ?_ | refine CW.condtr rfl (by with_reducible rfl) ?_ | refine CW.ret ?_) | (show Post _ _ _ _ _; first | refine Post.seq ?_ | refine Post.seq_ret ?_ | refine Post.blk_ret ?_ | refine Post.again_ret ?_) | refine SW.nil ?_ | refine SW.pure rfl rfl ?_)
   exact Post.ret1 rfl rfl ⟨_, rfl, hw, by rw [idxOf_hit (hl.lt hk) hp hI]⟩
 ·repeat' (first | (show CW _ _ _ _ _ _; first | refine CW.seq ?_ | refine CW.region ?_ | refine CW.condd_f rfl (by omega) ?_ | refine CW.ret ?_ | refine CW.exit ?_) | (show Post _ _ _ _ _; first | refine Post.seq ?_ | refine Post.seq_exit ?_ | refine Post.hit ?_ | refine Post.again_exit ?_) | refine SW.nil ?_ | refine SW.pure rfl rfl ?_)
  exact Post.ret1 rfl rfl ⟨_, rfl, hw, by rw [(idxOf_none (fun j hj => hI j hj (by have := hl.len; omega))).1]⟩
theorem ContainsFuncInt_ans (A : Option Addr) (n c : Nat) (l : List Int) (w : World) (hl : Sl w 1 encI A n l) (f : FuncId) (cap : List Value) [Body Tryd.prog f] (p : Int → Bool) (arg : Int → Value) (harg : ∀ x, arg x = (if 1 = 1 then (encI x)[0]?.getD undef else .agg (encI x).toArray))
  (hf : ∀ x ∈ l, ∀ w', Ext w w' → Ans Tryd.prog f ([arg x] ++ cap) w' fun v _ => v = .bool (p x)) (hn : n ≤ 9223372036854775807) :
  Ans Tryd.prog 54 [.slice A n c, .func (.func f) #[] cap.toArray] w fun v _ => v = .bool (l.any p) := by
 refine ans_of Tryd.func54 rfl Tryd.ntmps54 rfl ?_
 have hw := Ext.refl w
 repeat' (first | (show CW _ _ _ _ _ _; first | refine CW.seq ?_ | refine CW.region ?_ | refine CW.ret ?_) | (show Post _ _ _ _ _; refine Post.seq ?_) | refine SW.nil ?_ | refine SW.pure rfl rfl ?_ | (show SW _ _ _ _ (⟨_, Op.call ⟨.value (.func _), _, _⟩, _, _, _, none⟩ :: _) _ _; (refine SW.call rfl rfl (IndexFuncInt_ans _ _ _ _ _ (hl.ext hw) f cap p arg harg (fun x hx w1 h1 => hf x hx w1 (Ext.trans hw h1)) hn) ?_; intro v w1 hw1 hv; subst hv; replace hw := Ext.trans hw hw1; clear hw1)))
 exact Post.ret1 rfl rfl ⟨_, rfl, hw, by rw [idxOf_ge]⟩
theorem IndexFuncBlock_ans (A : Option Addr) (n c : Nat) (l : List Block) (w : World) (hl : Sl w 3 encBk A n l) (f : FuncId) (cap : List Value) [Body Tryd.prog f] (p : Block → Bool) (arg : Block → Value) (harg : ∀ x, arg x = (if 3 = 1 then (encBk x)[0]?.getD undef else .agg (encBk x).toArray))
  (hf : ∀ x ∈ l, ∀ w', Ext w w' → Ans Tryd.prog f ([arg x] ++ cap) w' fun v _ => v = .bool (p x)) (hn : n ≤ 9223372036854775807) :
  Ans Tryd.prog 58 [.slice A n c, .func (.func f) #[] cap.toArray] w fun v _ => v = .int .i64 (idxOf p l) := by
 refine ans_of Tryd.func58 rfl Tryd.ntmps58 rfl ?_
 have hw := Ext.refl w
 have hA := hl.base
 repeat' (first | (show CW _ _ _ _ _ _; first | refine CW.seq ?_ | refine CW.region ?_ | refine CW.block ?_) | (show Post _ _ _ _ _; refine Post.seq ?_) | refine SW.nil ?_ | refine SW.pure rfl rfl ?_ | (show SW _ _ _ _ (⟨_, Op.call ⟨.builtin .len, _, _⟩, _, _, _, none⟩ :: _) _ _; refine SW.st (st_len rfl) rfl ?_))
 refine CW.loop (fun k : Nat => [(0, .slice A n c), (1, .func (.func f) #[] cap.toArray), (7, .int .i64 (n : Int)), (8, .int .i64 (k : Int))]) (fun k w' => k ≤ n ∧ Ext w w' ∧ ∀ j (hj : j < l.length), j < k → p l[j] = false) (fun k => n - k) 0 ⟨rfl, rfl, rfl, rfl, trivial⟩ ⟨by omega, hw, fun j _ h => by omega⟩ ?_
 clear hw
 rintro k w' ⟨hk', hw, hI⟩
 by_cases hk : k < n
 ·have hx := harg (l[k]'(hl.lt hk))
  have hfk := hf (l[k]'(hl.lt hk)) (List.getElem_mem _)
  rw [hx] at hfk
  repeat' (first | (show CW _ _ _ _ _ _; first | refine CW.seq ?_ | refine CW.region ?_ | refine CW.block ?_ | refine CW.condd_t rfl (by omega) ?_ | refine CW.skip ?_) | (show Post _ _ _ _ _; refine Post.seq ?_) | refine SW.nil ?_ | refine SW.pure rfl rfl ?_ | (show SW _ _ _ _ (⟨_, Op.indexAddr _ _ _, _, _, _, none⟩ :: _) _ _; refine SW.st (st_indexN rfl rfl (by assumption) (by omega)) rfl ?_) | (show SW _ _ _ _ (⟨_, Op.load _ _, _, _, _, none⟩ :: _) _ _; refine SW.st (st_loadsx hw rfl rfl ((hl.all hk))) rfl ?_))
  refine SW.callv rfl rfl rfl (hfk _ hw) fun v w1 hw1 hv => ?_
  subst hv
  replace hw := Ext.trans hw hw1
  cases hp : p (l[k]'(hl.lt hk))
  ·repeat' (first | (show CW _ _ _ _ _ _; first | refine CW.region ?_ | refine CW.condfr rfl (by with_reducible rfl) ?_ | refine CW.skip ?_) | (show Post _ _ _ _ _; first | refine Post.seq ?_ | refine Post.blk ?_) | refine SW.nil ?_ | refine SW.pure rfl rfl ?_ | (show SW _ _ _ _ (⟨_, Op.binOp _ _ _ _ _, _, _, _, none⟩ :: _) _ _; refine SW.st (st_add rfl rfl (by omega) (by omega)) rfl ?_))
   refine Post.again (k + 1) ⟨rfl, rfl, rfl, rfl, trivial⟩ (by omega) ⟨by omega, hw, fun j hj h => ?_⟩
   by_cases hjk : j = k
   ·subst hjk; exact hp
   ·exact hI j hj (by omega)
  ·repeat' (first | (show CW _ _ _ _ _ _; first | refine CW.seq ?_ | refine CW.region ?_ | refine CW.condtr rfl (by with_reducible rfl) ?_ | refine CW.ret ?_) | (show Post _ _ _ _ _; first | refine Post.seq ?_ | refine Post.seq_ret ?_ | refine Post.blk_ret ?_ | refine Post.again_ret ?_) | refine SW.nil ?_ | refine SW.pure rfl rfl ?_)
   exact Post.ret1 rfl rfl ⟨_, rfl, hw, by rw [idxOf_hit (hl.lt hk) hp hI]⟩
 ·repeat' (first | (show CW _ _ _ _ _ _; first | refine CW.seq ?_ | refine CW.region ?_ | refine CW.condd_f rfl (by omega) ?_ | refine CW.ret ?_ | refine CW.exit ?_) | (show Post _ _ _ _ _; first | refine Post.seq ?_ | refine Post.seq_exit ?_ | refine Post.hit ?_ | refine Post.again_exit ?_) | refine SW.nil ?_ | refine SW.pure rfl rfl ?_)
  exact Post.ret1 rfl rfl ⟨_, rfl, hw, by rw [(idxOf_none (fun j hj => hI j hj (by have := hl.len; omega))).1]⟩
theorem ContainsFuncBlock_ans (A : Option Addr) (n c : Nat) (l : List Block) (w : World) (hl : Sl w 3 encBk A n l) (f : FuncId) (cap : List Value) [Body Tryd.prog f] (p : Block → Bool) (arg : Block → Value) (harg : ∀ x, arg x = (if 3 = 1 then (encBk x)[0]?.getD undef else .agg (encBk x).toArray))
  (hf : ∀ x ∈ l, ∀ w', Ext w w' → Ans Tryd.prog f ([arg x] ++ cap) w' fun v _ => v = .bool (p x)) (hn : n ≤ 9223372036854775807) :
  Ans Tryd.prog 138 [.slice A n c, .func (.func f) #[] cap.toArray] w fun v _ => v = .bool (l.any p) := by
 refine ans_of Tryd.func138 rfl Tryd.ntmps138 rfl ?_
 have hw := Ext.refl w
 repeat' (first | (show CW _ _ _ _ _ _; first | refine CW.seq ?_ | refine CW.region ?_ | refine CW.ret ?_) | (show Post _ _ _ _ _; refine Post.seq ?_) | refine SW.nil ?_ | refine SW.pure rfl rfl ?_ | (show SW _ _ _ _ (⟨_, Op.call ⟨.value (.func _), _, _⟩, _, _, _, none⟩ :: _) _ _; (refine SW.call rfl rfl (IndexFuncBlock_ans _ _ _ _ _ (hl.ext hw) f cap p arg harg (fun x hx w1 h1 => hf x hx w1 (Ext.trans hw h1)) hn) ?_; intro v w1 hw1 hv; subst hv; replace hw := Ext.trans hw hw1; clear hw1)))
 exact Post.ret1 rfl rfl ⟨_, rfl, hw, by rw [idxOf_ge]⟩
end Go.Proofs.YtfommgdbahemfaaDoor
set_option linter.unusedVariables false
namespace Go.Proofs.YtfommgdbahemfaaDoor
open Go.RowKit
def oddB (t : Int) : Bool := !decide (tyOk t)
theorem oddB_f {t : Int} (h : tyOk t) : oddB t = false := by simp [oddB, h]
theorem oddB_t {t : Int} (h : ¬ tyOk t) : oddB t = true := by simp [oddB, h]
theorem Zodd_ans (t : Int) (w : World) : Ans Tryd.prog 53 ([.int .i64 t] ++ []) w fun v _ => v = .bool (oddB t) := by
 refine ans_of Tryd.func53 rfl Tryd.ntmps53 rfl ?_
 have hw := Ext.refl w
 by_cases h1 : 0 ≤ t
 ·by_cases h2 : t ≤ 2
  ·rw [oddB_f ⟨h1, h2⟩]
   repeat' (first | (show CW _ _ _ _ _ _; first | refine CW.seq ?_ | refine CW.region ?_ | refine CW.ret ?_) | (show Post _ _ _ _ _; refine Post.seq ?_) | refine SW.nil ?_ | (show SW _ _ _ _ (⟨_, _, _, _, _, some _⟩ :: _) _ _; first | refine SW.want_f rfl rfl (by with_reducible rfl) ?_ | refine SW.splitd_f rfl rfl rfl (by omega) ?_) | refine SW.pure rfl rfl ?_)
   all_goals exact Post.ret1 rfl rfl ⟨_, rfl, hw, by simp; try omega⟩
  ·rw [oddB_t (fun h => h2 h.2)]
   repeat' (first | (show CW _ _ _ _ _ _; first | refine CW.seq ?_ | refine CW.region ?_ | refine CW.ret ?_) | (show Post _ _ _ _ _; refine Post.seq ?_) | refine SW.nil ?_ | (show SW _ _ _ _ (⟨_, _, _, _, _, some _⟩ :: _) _ _; first | refine SW.want_f rfl rfl (by with_reducible rfl) ?_ | refine SW.splitd_f rfl rfl rfl (by omega) ?_) | refine SW.pure rfl rfl ?_)
   all_goals exact Post.ret1 rfl rfl ⟨_, rfl, hw, by simp; try omega⟩
 ·rw [oddB_t (fun h => h1 h.1)]
  repeat' (first | (show CW _ _ _ _ _ _; first | refine CW.seq ?_ | refine CW.region ?_ | refine CW.ret ?_) | (show Post _ _ _ _ _; refine Post.seq ?_) | refine SW.nil ?_ | (show SW _ _ _ _ (⟨_, _, _, _, _, some _⟩ :: _) _ _; first | refine SW.skip_f rfl rfl (by with_reducible rfl) rfl ?_ | refine SW.splitd_t rfl rfl rfl (by omega) ?_) | refine SW.pure rfl rfl ?_)
  all_goals exact Post.ret1 rfl rfl ⟨_, rfl, hw, by simp; try omega⟩
set_option maxHeartbeats 4000000 in
theorem Zcheck_ans (r : ZRow) (z : Zone) (w : World) (hr : RdZ w r z) (hf : r.Free.n ≤ 2305843009213693952) (ht : r.Types.n ≤ 2305843009213693952) (h1 : -9223372036854775808 ≤ r.From ∧ r.From ≤ 9223372036854775807) (h2 : -9223372036854775808 ≤ r.To ∧ r.To ≤ 9223372036854775807) :
  Ans Tryd.prog 18 [.agg (encZ r).toArray] w fun v _ => v = .int .i64 (if zoneB z then 0 else 8) := by
 refine ans_of Tryd.func18 rfl Tryd.ntmps18 rfl ?_
 refine CW.seq (CW.region (SW.box rfl rfl fun b1 w1 hw hb1b hb1 => ?_))
 have eF := hr.from_
 have eT := hr.to_
 have hFl := hr.free.len
 have hTl := hr.types.len
 repeat' (first | (show CW _ _ _ _ _ _; first | refine CW.seq ?_ | refine CW.region ?_) | (show Post _ _ _ _ _; refine Post.seq ?_) | refine SW.nil ?_ | refine SW.pure rfl rfl ?_ | (show SW _ _ _ _ (⟨_, Op.fieldAddr _ _ _, _, _, _, none⟩ :: _) _ _; refine SW.st (st_field rfl) rfl ?_) | (show SW _ _ _ _ (⟨_, Op.load _ _, _, _, _, none⟩ :: _) _ _; refine SW.st (st_load rfl (hb1.cell rfl)) rfl ?_))
 refine SW.call rfl rfl (Znew_ans r.From r.To _ h1 h2) fun v w2 hw2 hv => ?_
 (replace hw := Ext.trans hw hw2; replace hb1 := hb1.ext hw2)
 by_cases hok : zoneOk r.From r.To
 ·rw [zoneNewV_t hok] at hv
  obtain ⟨s, rfl, hs⟩ := hv
  obtain ⟨o1, o2, o3, o4, o5⟩ := id hok
  have hno : ∀ {p : Prop}, (ZoneMay z → False) → p ∨ ¬ ZoneMay z := fun h => .inr h
  by_cases hl8 : 8 * (z.Types.length : Int) = z.To - z.From
  ·repeat' (refine SW.pure rfl rfl ?_)
   refine SW.alloc rfl fun b3 w1 hw1 hb3b hb3 => ?_
   have hb3w : w.heap.size ≤ b3 := Nat.le_trans hw.size hb3b
   have hne_b1 : b1 ≠ b3 := by have := hb1.lt; omega
   replace hw := Ext.trans hw hw1
   replace hb1 := hb1.ext hw1
   replace hs := hs.ext hw1
   refine SW.storeAgg hb3 rfl rfl rfl rfl (one_z _) fun w2 hb3' hg => ?_
   replace hw := hw.own hb3w hg
   replace hs := hs.blk hb3 hg rfl rfl
   replace hb1 := hb1.grown hg (by simpa using hne_b1)
   replace hb3 := hb3'
   clear hb3' hw1 hg hb3b
   have cO : ∀ w', Ext w w' → Ans Tryd.prog 54 [.slice r.Types.A r.Types.n r.Types.c, .func (.func 53) #[] ([] : List Value).toArray] w' fun v _ => v = .bool (z.Types.any oddB) := fun w' h =>
    ContainsFuncInt_ans _ _ _ _ _ (hr.types.ext h) _ [] oddB (fun x => .int .i64 x) (fun x => rfl) (fun x _ w1 _ => Zodd_ans x w1) (by omega)
   cases hodd : z.Types.any oddB
   ·rw [hodd] at cO
    have hty : ∀ t ∈ z.Types, tyOk t := fun t htt => by
     rw [List.any_eq_false] at hodd
     have := hodd t htt
     simp [oddB] at this
     exact this
    repeat' (first | (show CW _ _ _ _ _ _; first | refine CW.seq ?_ | refine CW.region ?_ | refine CW.block ?_ | refine CW.condfr rfl (by with_reducible rfl) ?_ | refine CW.condn_f rfl (by omega) ?_ | refine CW.skip ?_) | (show Post _ _ _ _ _; refine Post.seq ?_) | refine SW.nil ?_ | (show SW _ _ _ _ (⟨_, _, _, _, _, some _⟩ :: _) _ _; first | refine SW.want_f rfl rfl (by with_reducible rfl) ?_ | refine SW.splitn_f rfl rfl rfl (by omega) ?_) | refine SW.pure rfl rfl ?_ | (show SW _ _ _ _ (⟨_, Op.fieldAddr _ _ _, _, _, _, none⟩ :: _) _ _; refine SW.st (st_field rfl) rfl ?_) | (show SW _ _ _ _ (⟨_, Op.binOp _ _ _ _ _, _, _, _, none⟩ :: _) _ _; first | refine SW.st (st_sub rfl rfl (by omega) (by omega)) rfl ?_ | refine SW.st (st_quo rfl rfl (by omega) (by omega) (by omega)) rfl ?_) | (show SW _ _ _ _ (⟨_, Op.call ⟨.builtin .len, _, _⟩, _, _, _, none⟩ :: _) _ _; refine SW.st (st_len rfl) rfl ?_) | (show SW _ _ _ _ (⟨_, Op.load _ _, _, _, _, none⟩ :: _) _ _; refine SW.st (st_load rfl (hb1.cell rfl)) rfl ?_) | (show SW _ _ _ _ (⟨_, Op.call ⟨.value (.func _), _, _⟩, _, _, _, none⟩ :: _) _ _; (refine SW.call rfl rfl (cO _ hw) ?_; intro v w1 hw1 hv; subst hv; replace hw := Ext.trans hw hw1; replace hb1 := hb1.ext hw1; clear hw1)))
    refine CW.loop (fun k : Nat => [(1, .pointer (some ⟨b1, 0, none⟩)), (5, .func (.func 53) #[] #[]), (35, .slice r.Free.A r.Free.n r.Free.c), (36, .int .i64 (r.Free.n : Int)), (37, .int .i64 (k : Int))])
     (fun k w' => k ≤ r.Free.n ∧ Ext w w' ∧ Blk w' b1 25 (encZ r) ∧ (∀ (i : Nat) (h : i < z.Free.length), i < k → blkOk z.From z.To z.Free[i]) ∧ (∀ (i : Nat) (h : i + 1 < z.Free.length), i + 1 < k → nextOk z.Free[i] z.Free[i + 1]))
     (fun k => r.Free.n - k) 0 ⟨rfl, rfl, rfl, rfl, rfl, trivial⟩ ⟨by omega, hw, hb1, fun i h hi => by omega, fun i h hi => by omega⟩ ?_
    clear hw hb1 hb3 cO hs
    rintro k w' ⟨hk, hw, hb1, hI, hN⟩
    have hA := hr.free.base
    by_cases hkn : k < r.Free.n
    ·have hkl := hr.free.lt hkn
     repeat' (first | (show CW _ _ _ _ _ _; first | refine CW.seq ?_ | refine CW.region ?_ | refine CW.block ?_ | refine CW.condd_t rfl (by omega) ?_ | refine CW.skip ?_) | (show Post _ _ _ _ _; refine Post.seq ?_) | refine SW.nil ?_ | refine SW.pure rfl rfl ?_ | (show SW _ _ _ _ (⟨_, Op.indexAddr _ _ _, _, _, _, none⟩ :: _) _ _; refine SW.st (st_indexN rfl rfl (by assumption) (by omega)) rfl ?_) | (show SW _ _ _ _ (⟨_, Op.load _ _, _, _, _, none⟩ :: _) _ _; refine SW.st (st_loadsx hw rfl rfl ((hr.free.all hkn))) rfl ?_))
     refine SW.alloc rfl fun b7 w3 hw3 hb7b hb7 => ?_
     have hb7w : w.heap.size ≤ b7 := Nat.le_trans hw.size hb7b
     have hne : b1 ≠ b7 := by have := hb1.lt; omega
     (replace hw := Ext.trans hw hw3; replace hb1 := hb1.ext hw3)
     repeat' (refine SW.pure rfl rfl ?_)
     refine SW.storeAgg hb7 rfl rfl rfl rfl (Enc.one (enc := encBk) _) fun w4 hb7' hg => ?_
     replace hw := hw.own hb7w hg
     replace hb1 := hb1.grown hg (by simpa using hne)
     by_cases hbk : blkOk z.From z.To z.Free[k]
     ·obtain ⟨hfz, hty'⟩ := id hbk
      obtain ⟨f1, f2, f3, f4, f5⟩ := id hfz
      have hp := pw_le f1 f2
      have cF : ∀ w', Ext w w' → Ans Tryd.prog 55 [.agg (encZ r).toArray, .agg (encBk z.Free[k]).toArray] w' fun v _ => v = .bool true := fun w' _ => by
       have := Zfits_ans r z.Free[k] w' (by omega)
       rwa [eF, eT, decide_eq_true hfz] at this
      have cD : ∀ w', Ans Tryd.prog 53 ([.int .i64 (z.Free[k]).Ty] ++ []) w' fun v _ => v = .bool false := fun w' => by
       have := Zodd_ans (z.Free[k]).Ty w'
       rwa [oddB_f hty'] at this
      by_cases hk0 : k = 0
      ·subst hk0
       repeat' (first | (show CW _ _ _ _ _ _; first | refine CW.seq ?_ | refine CW.region ?_ | refine CW.condfr rfl (by with_reducible rfl) ?_ | refine CW.skip ?_ | (apply CW.quiet1 mixed; (· kernel_rfl); rotate_left; intro w1 hw1; replace hw := Ext.trans hw hw1; replace hb1 := hb1.ext hw1; replace hb7' := hb7'.ext hw1; clear hw1; rotate_right)) | (show Post _ _ _ _ _; first | refine Post.seq ?_ | refine Post.blk ?_) | refine SW.nil ?_ | (show SW _ _ _ _ (⟨_, _, _, _, _, some _⟩ :: _) _ _; first | refine SW.want_f rfl rfl (by with_reducible rfl) ?_ | refine SW.skip_t rfl rfl (by with_reducible rfl) rfl ?_ | refine SW.splitd_f rfl rfl rfl (by omega) ?_ | refine SW.want rfl rfl ?_) | refine SW.pure rfl rfl ?_ | (show SW _ _ _ _ (⟨_, Op.fieldAddr _ _ _, _, _, _, none⟩ :: _) _ _; refine SW.st (st_field rfl) rfl ?_) | (show SW _ _ _ _ (⟨_, Op.binOp _ _ _ _ _, _, _, _, none⟩ :: _) _ _; refine SW.st (st_add rfl rfl (by omega) (by omega)) rfl ?_) | (show SW _ _ _ _ (⟨_, Op.load _ _, _, _, _, none⟩ :: _) _ _; first | refine SW.st (st_loads rfl rfl ((fun _ _ => hb1.cell))) rfl ?_ | refine SW.st (st_loads rfl rfl ((fun _ _ => hb7'.cell))) rfl ?_ | refine SW.st (st_load rfl (hb7'.cell rfl)) rfl ?_) | (show SW _ _ _ _ (⟨_, Op.call ⟨.value (.func _), _, _⟩, _, _, _, none⟩ :: _) _ _; refine SW.qcall rfl rfl (fun w1 hw1 => (cF _ (Ext.trans hw hw1))) ?_) | (refine SW.qcallv rfl rfl rfl (fun w1 _ => cD w1) ?_) | exact SW.qnil rfl)
       refine Post.again (0 + 1) ⟨rfl, rfl, rfl, rfl, rfl, trivial⟩ (by omega) ⟨by omega, hw, hb1, fun i h hi => ?_, fun i h hi => by omega⟩
       obtain rfl : i = 0 := by omega
       exact hbk
      ·obtain ⟨j, rfl⟩ : ∃ j, k = j + 1 := ⟨k - 1, by omega⟩
       have hj : j < r.Free.n := by omega
       have hjl := hr.free.lt hj
       obtain ⟨⟨g1, g2, g3, g4, g5⟩, _⟩ := hI j hjl (by omega)
       have cE : ∀ w', Ans Tryd.prog 23 [.agg (encBk z.Free[j]).toArray] w' fun v _ => v = .int .i64 ((z.Free[j]).At + pw (z.Free[j]).Order) := fun w' => Zend_ans _ _ ⟨g1, g2⟩ ⟨by omega, by omega⟩
       by_cases hlt : (z.Free[j]).At + pw (z.Free[j]).Order ≤ (z.Free[j + 1]).At
       ·by_cases hbu : (z.Free[j + 1]).Order < 4 ∧ (z.Free[j]).Order = (z.Free[j + 1]).Order ∧ (z.Free[j]).At = beside (z.Free[j + 1]).At (z.Free[j + 1]).Order
        ·obtain ⟨u1, u2, u3⟩ := id hbu
         repeat' (first | (show CW _ _ _ _ _ _; first | refine CW.seq ?_ | refine CW.region ?_ | refine CW.condd_t rfl (by omega) ?_ | refine CW.condd_f rfl (by omega) ?_ | refine CW.skip ?_ | refine CW.ret ?_ | (apply CW.quiet1 mixed; (· kernel_rfl); rotate_left; intro w1 hw1; replace hw := Ext.trans hw hw1; replace hb1 := hb1.ext hw1; replace hb7' := hb7'.ext hw1; clear hw1; rotate_right)) | (show Post _ _ _ _ _; first | refine Post.seq ?_ | refine Post.seq_ret ?_ | refine Post.blk_ret ?_ | refine Post.again_ret ?_) | refine SW.nil ?_ | (show SW _ _ _ _ (⟨_, _, _, _, _, some _⟩ :: _) _ _; first | refine SW.want_t rfl rfl (by with_reducible rfl) ?_ | refine SW.want_f rfl rfl (by with_reducible rfl) ?_ | refine SW.splitd_t rfl rfl rfl (by omega) ?_ | refine SW.splitd_f rfl rfl rfl (by omega) ?_) | refine SW.pure rfl rfl ?_ | (show SW _ _ _ _ (⟨_, Op.fieldAddr _ _ _, _, _, _, none⟩ :: _) _ _; refine SW.st (st_field rfl) rfl ?_) | (show SW _ _ _ _ (⟨_, Op.binOp _ _ _ _ _, _, _, _, none⟩ :: _) _ _; refine SW.st (st_sub rfl rfl (by omega) (by omega)) rfl ?_) | (show SW _ _ _ _ (⟨_, Op.indexAddr _ _ _, _, _, _, none⟩ :: _) _ _; refine SW.st (st_indexI (j) rfl rfl (by assumption) (by omega) (by omega)) rfl ?_) | (show SW _ _ _ _ (⟨_, Op.load _ _, _, _, _, none⟩ :: _) _ _; first | refine SW.st (st_loads rfl rfl ((fun _ _ => hb1.cell))) rfl ?_ | refine SW.st (st_loads rfl rfl ((fun _ _ => hb7'.cell))) rfl ?_ | refine SW.st (st_load rfl (hb7'.cell rfl)) rfl ?_ | refine SW.st (st_load rfl (hb1.cell rfl)) rfl ?_ | refine SW.st (st_loadsx hw rfl rfl ((hr.free.all hj))) rfl ?_ | refine SW.st (st_loadx hw rfl (hr.free.fld hj rfl)) rfl ?_) | (show SW _ _ _ _ (⟨_, Op.call ⟨.value (.func _), _, _⟩, _, _, _, none⟩ :: _) _ _; first | refine SW.qcall rfl rfl (fun w1 hw1 => (cF _ (Ext.trans hw hw1))) ?_ | refine SW.qcall rfl rfl (fun w1 hw1 => (cE _)) ?_) | (refine SW.qcallv rfl rfl rfl (fun w1 _ => cD w1) ?_) | (refine SW.st (st_shl (r := pw (z.Free[j + 1]).Order) rfl rfl (by omega) (by omega) (by simp [pw]) (by omega) (by omega)) rfl ?_) | (refine SW.st (st_beside (z.Free[j + 1]).At (z.Free[j + 1]).Order rfl rfl rfl rfl ⟨by omega, by omega, f1, u1, f5⟩) rfl ?_) | exact SW.qnil rfl)
         refine Post.ret1 rfl rfl ⟨_, rfl, hw, ?_⟩
         rw [zoneB_f (fun h => (h.next j hkl).2 hbu)]; rfl
        ·by_cases u1 : (z.Free[j + 1]).Order < 4
         ·by_cases u2 : (z.Free[j]).Order = (z.Free[j + 1]).Order
          ·have u3 : ¬ (z.Free[j]).At = beside (z.Free[j + 1]).At (z.Free[j + 1]).Order := fun u3 => hbu ⟨u1, u2, u3⟩
           repeat' (first | (show CW _ _ _ _ _ _; first | refine CW.seq ?_ | refine CW.region ?_ | refine CW.condd_f rfl (by omega) ?_ | refine CW.skip ?_ | (apply CW.quiet1 mixed; (· kernel_rfl); rotate_left; intro w1 hw1; replace hw := Ext.trans hw hw1; replace hb1 := hb1.ext hw1; replace hb7' := hb7'.ext hw1; clear hw1; rotate_right)) | (show Post _ _ _ _ _; first | refine Post.seq ?_ | refine Post.blk ?_) | refine SW.nil ?_ | (show SW _ _ _ _ (⟨_, _, _, _, _, some _⟩ :: _) _ _; first | refine SW.want_t rfl rfl (by with_reducible rfl) ?_ | refine SW.want_f rfl rfl (by with_reducible rfl) ?_ | refine SW.splitd_t rfl rfl rfl (by omega) ?_ | refine SW.want rfl rfl ?_) | refine SW.pure rfl rfl ?_ | (show SW _ _ _ _ (⟨_, Op.fieldAddr _ _ _, _, _, _, none⟩ :: _) _ _; refine SW.st (st_field rfl) rfl ?_) | (show SW _ _ _ _ (⟨_, Op.binOp _ _ _ _ _, _, _, _, none⟩ :: _) _ _; first | refine SW.st (st_add rfl rfl (by omega) (by omega)) rfl ?_ | refine SW.st (st_sub rfl rfl (by omega) (by omega)) rfl ?_) | (show SW _ _ _ _ (⟨_, Op.indexAddr _ _ _, _, _, _, none⟩ :: _) _ _; refine SW.st (st_indexI (j) rfl rfl (by assumption) (by omega) (by omega)) rfl ?_) | (show SW _ _ _ _ (⟨_, Op.load _ _, _, _, _, none⟩ :: _) _ _; first | refine SW.st (st_loads rfl rfl ((fun _ _ => hb1.cell))) rfl ?_ | refine SW.st (st_loads rfl rfl ((fun _ _ => hb7'.cell))) rfl ?_ | refine SW.st (st_load rfl (hb7'.cell rfl)) rfl ?_ | refine SW.st (st_load rfl (hb1.cell rfl)) rfl ?_ | refine SW.st (st_loadsx hw rfl rfl ((hr.free.all hj))) rfl ?_ | refine SW.st (st_loadx hw rfl (hr.free.fld hj rfl)) rfl ?_) | (show SW _ _ _ _ (⟨_, Op.call ⟨.value (.func _), _, _⟩, _, _, _, none⟩ :: _) _ _; first | refine SW.qcall rfl rfl (fun w1 hw1 => (cF _ (Ext.trans hw hw1))) ?_ | refine SW.qcall rfl rfl (fun w1 hw1 => (cE _)) ?_) | (refine SW.qcallv rfl rfl rfl (fun w1 _ => cD w1) ?_) | (refine SW.st (st_shl (r := pw (z.Free[j + 1]).Order) rfl rfl (by omega) (by omega) (by simp [pw]) (by omega) (by omega)) rfl ?_) | (refine SW.st (st_beside (z.Free[j + 1]).At (z.Free[j + 1]).Order rfl rfl rfl rfl ⟨by omega, by omega, f1, u1, f5⟩) rfl ?_) | exact SW.qnil rfl)
           refine Post.again (j + 1 + 1) ⟨rfl, rfl, rfl, rfl, rfl, trivial⟩ (by omega) ⟨by omega, hw, hb1, fun i h hi => ?_, fun i h hi => ?_⟩
           ·by_cases hij : i = j + 1
            ·subst hij; exact hbk
            ·exact hI i h (by omega)
           ·by_cases hij : i = j
            ·subst hij; exact ⟨hlt, hbu⟩
            ·exact hN i h (by omega)
          ·repeat' (first | (show CW _ _ _ _ _ _; first | refine CW.seq ?_ | refine CW.region ?_ | refine CW.condfr rfl (by with_reducible rfl) ?_ | refine CW.condd_f rfl (by omega) ?_ | refine CW.skip ?_ | (apply CW.quiet1 mixed; (· kernel_rfl); rotate_left; intro w1 hw1; replace hw := Ext.trans hw hw1; replace hb1 := hb1.ext hw1; replace hb7' := hb7'.ext hw1; clear hw1; rotate_right)) | (show Post _ _ _ _ _; first | refine Post.seq ?_ | refine Post.blk ?_) | refine SW.nil ?_ | (show SW _ _ _ _ (⟨_, _, _, _, _, some _⟩ :: _) _ _; first | refine SW.want_t rfl rfl (by with_reducible rfl) ?_ | refine SW.want_f rfl rfl (by with_reducible rfl) ?_ | refine SW.skip_t rfl rfl (by with_reducible rfl) rfl ?_ | refine SW.splitd_t rfl rfl rfl (by omega) ?_ | refine SW.splitd_f rfl rfl rfl (by omega) ?_ | refine SW.want rfl rfl ?_) | refine SW.pure rfl rfl ?_ | (show SW _ _ _ _ (⟨_, Op.fieldAddr _ _ _, _, _, _, none⟩ :: _) _ _; refine SW.st (st_field rfl) rfl ?_) | (show SW _ _ _ _ (⟨_, Op.binOp _ _ _ _ _, _, _, _, none⟩ :: _) _ _; first | refine SW.st (st_add rfl rfl (by omega) (by omega)) rfl ?_ | refine SW.st (st_sub rfl rfl (by omega) (by omega)) rfl ?_) | (show SW _ _ _ _ (⟨_, Op.indexAddr _ _ _, _, _, _, none⟩ :: _) _ _; refine SW.st (st_indexI (j) rfl rfl (by assumption) (by omega) (by omega)) rfl ?_) | (show SW _ _ _ _ (⟨_, Op.load _ _, _, _, _, none⟩ :: _) _ _; first | refine SW.st (st_loads rfl rfl ((fun _ _ => hb1.cell))) rfl ?_ | refine SW.st (st_loads rfl rfl ((fun _ _ => hb7'.cell))) rfl ?_ | refine SW.st (st_load rfl (hb7'.cell rfl)) rfl ?_ | refine SW.st (st_load rfl (hb1.cell rfl)) rfl ?_ | refine SW.st (st_loadsx hw rfl rfl ((hr.free.all hj))) rfl ?_ | refine SW.st (st_loadx hw rfl (hr.free.fld hj rfl)) rfl ?_) | (show SW _ _ _ _ (⟨_, Op.call ⟨.value (.func _), _, _⟩, _, _, _, none⟩ :: _) _ _; first | refine SW.qcall rfl rfl (fun w1 hw1 => (cF _ (Ext.trans hw hw1))) ?_ | refine SW.qcall rfl rfl (fun w1 hw1 => (cE _)) ?_) | (refine SW.qcallv rfl rfl rfl (fun w1 _ => cD w1) ?_) | exact SW.qnil rfl)
           refine Post.again (j + 1 + 1) ⟨rfl, rfl, rfl, rfl, rfl, trivial⟩ (by omega) ⟨by omega, hw, hb1, fun i h hi => ?_, fun i h hi => ?_⟩
           ·by_cases hij : i = j + 1
            ·subst hij; exact hbk
            ·exact hI i h (by omega)
           ·by_cases hij : i = j
            ·subst hij; exact ⟨hlt, hbu⟩
            ·exact hN i h (by omega)
         ·repeat' (first | (show CW _ _ _ _ _ _; first | refine CW.seq ?_ | refine CW.region ?_ | refine CW.condfr rfl (by with_reducible rfl) ?_ | refine CW.condd_f rfl (by omega) ?_ | refine CW.skip ?_ | (apply CW.quiet1 mixed; (· kernel_rfl); rotate_left; intro w1 hw1; replace hw := Ext.trans hw hw1; replace hb1 := hb1.ext hw1; replace hb7' := hb7'.ext hw1; clear hw1; rotate_right)) | (show Post _ _ _ _ _; first | refine Post.seq ?_ | refine Post.blk ?_) | refine SW.nil ?_ | (show SW _ _ _ _ (⟨_, _, _, _, _, some _⟩ :: _) _ _; first | refine SW.want_t rfl rfl (by with_reducible rfl) ?_ | refine SW.want_f rfl rfl (by with_reducible rfl) ?_ | refine SW.skip_t rfl rfl (by with_reducible rfl) rfl ?_ | refine SW.splitd_t rfl rfl rfl (by omega) ?_ | refine SW.splitd_f rfl rfl rfl (by omega) ?_ | refine SW.want rfl rfl ?_) | refine SW.pure rfl rfl ?_ | (show SW _ _ _ _ (⟨_, Op.fieldAddr _ _ _, _, _, _, none⟩ :: _) _ _; refine SW.st (st_field rfl) rfl ?_) | (show SW _ _ _ _ (⟨_, Op.binOp _ _ _ _ _, _, _, _, none⟩ :: _) _ _; first | refine SW.st (st_add rfl rfl (by omega) (by omega)) rfl ?_ | refine SW.st (st_sub rfl rfl (by omega) (by omega)) rfl ?_) | (show SW _ _ _ _ (⟨_, Op.indexAddr _ _ _, _, _, _, none⟩ :: _) _ _; refine SW.st (st_indexI (j) rfl rfl (by assumption) (by omega) (by omega)) rfl ?_) | (show SW _ _ _ _ (⟨_, Op.load _ _, _, _, _, none⟩ :: _) _ _; first | refine SW.st (st_loads rfl rfl ((fun _ _ => hb1.cell))) rfl ?_ | refine SW.st (st_loads rfl rfl ((fun _ _ => hb7'.cell))) rfl ?_ | refine SW.st (st_load rfl (hb7'.cell rfl)) rfl ?_ | refine SW.st (st_load rfl (hb1.cell rfl)) rfl ?_ | refine SW.st (st_loadsx hw rfl rfl ((hr.free.all hj))) rfl ?_) | (show SW _ _ _ _ (⟨_, Op.call ⟨.value (.func _), _, _⟩, _, _, _, none⟩ :: _) _ _; first | refine SW.qcall rfl rfl (fun w1 hw1 => (cF _ (Ext.trans hw hw1))) ?_ | refine SW.qcall rfl rfl (fun w1 hw1 => (cE _)) ?_) | (refine SW.qcallv rfl rfl rfl (fun w1 _ => cD w1) ?_) | exact SW.qnil rfl)
          refine Post.again (j + 1 + 1) ⟨rfl, rfl, rfl, rfl, rfl, trivial⟩ (by omega) ⟨by omega, hw, hb1, fun i h hi => ?_, fun i h hi => ?_⟩
          ·by_cases hij : i = j + 1
           ·subst hij; exact hbk
           ·exact hI i h (by omega)
          ·by_cases hij : i = j
           ·subst hij; exact ⟨hlt, hbu⟩
           ·exact hN i h (by omega)
       ·repeat' (first | (show CW _ _ _ _ _ _; first | refine CW.seq ?_ | refine CW.region ?_ | refine CW.condd_t rfl (by omega) ?_ | refine CW.ret ?_ | (apply CW.quiet1 mixed; (· kernel_rfl); rotate_left; intro w1 hw1; replace hw := Ext.trans hw hw1; replace hb1 := hb1.ext hw1; replace hb7' := hb7'.ext hw1; clear hw1; rotate_right)) | (show Post _ _ _ _ _; first | refine Post.seq ?_ | refine Post.seq_ret ?_ | refine Post.blk_ret ?_ | refine Post.again_ret ?_) | refine SW.nil ?_ | (show SW _ _ _ _ (⟨_, _, _, _, _, some _⟩ :: _) _ _; first | refine SW.want_t rfl rfl (by with_reducible rfl) ?_ | refine SW.want_f rfl rfl (by with_reducible rfl) ?_ | refine SW.splitd_t rfl rfl rfl (by omega) ?_ | refine SW.want rfl rfl ?_) | refine SW.pure rfl rfl ?_ | (show SW _ _ _ _ (⟨_, Op.fieldAddr _ _ _, _, _, _, none⟩ :: _) _ _; refine SW.st (st_field rfl) rfl ?_) | (show SW _ _ _ _ (⟨_, Op.binOp _ _ _ _ _, _, _, _, none⟩ :: _) _ _; refine SW.st (st_sub rfl rfl (by omega) (by omega)) rfl ?_) | (show SW _ _ _ _ (⟨_, Op.indexAddr _ _ _, _, _, _, none⟩ :: _) _ _; refine SW.st (st_indexI (j) rfl rfl (by assumption) (by omega) (by omega)) rfl ?_) | (show SW _ _ _ _ (⟨_, Op.load _ _, _, _, _, none⟩ :: _) _ _; first | refine SW.st (st_loads rfl rfl ((fun _ _ => hb1.cell))) rfl ?_ | refine SW.st (st_loads rfl rfl ((fun _ _ => hb7'.cell))) rfl ?_ | refine SW.st (st_load rfl (hb7'.cell rfl)) rfl ?_ | refine SW.st (st_load rfl (hb1.cell rfl)) rfl ?_ | refine SW.st (st_loadsx hw rfl rfl ((hr.free.all hj))) rfl ?_) | (show SW _ _ _ _ (⟨_, Op.call ⟨.value (.func _), _, _⟩, _, _, _, none⟩ :: _) _ _; first | refine SW.qcall rfl rfl (fun w1 hw1 => (cF _ (Ext.trans hw hw1))) ?_ | refine SW.qcall rfl rfl (fun w1 hw1 => (cE _)) ?_) | (refine SW.qcallv rfl rfl rfl (fun w1 _ => cD w1) ?_) | exact SW.qnil rfl)
        refine Post.ret1 rfl rfl ⟨_, rfl, hw, ?_⟩
        rw [zoneB_f (fun h => hlt (h.next j hkl).1)]; rfl
     ·have hfail : zoneB z = false := zoneB_f (fun h => hbk (h.blk k hkl))
      by_cases hfz : fitsZ z.From z.To (z.Free[k]).At (z.Free[k]).Order
      ·have hty' : ¬ tyOk (z.Free[k]).Ty := fun h => hbk ⟨hfz, h⟩
       have cF : ∀ w', Ext w w' → Ans Tryd.prog 55 [.agg (encZ r).toArray, .agg (encBk z.Free[k]).toArray] w' fun v _ => v = .bool true := fun w' _ => by
        have := Zfits_ans r z.Free[k] w' (by omega)
        rwa [eF, eT, decide_eq_true hfz] at this
       have cD : ∀ w', Ans Tryd.prog 53 ([.int .i64 (z.Free[k]).Ty] ++ []) w' fun v _ => v = .bool true := fun w' => by
        have := Zodd_ans (z.Free[k]).Ty w'
        rwa [oddB_t hty'] at this
       repeat' (first | (show CW _ _ _ _ _ _; first | refine CW.seq ?_ | refine CW.region ?_ | refine CW.condtr rfl (by with_reducible rfl) ?_ | refine CW.ret ?_ | (apply CW.quiet1 mixed; (· kernel_rfl); rotate_left; intro w1 hw1; replace hw := Ext.trans hw hw1; replace hb1 := hb1.ext hw1; replace hb7' := hb7'.ext hw1; clear hw1; rotate_right)) | (show Post _ _ _ _ _; first | refine Post.seq ?_ | refine Post.seq_ret ?_ | refine Post.blk_ret ?_ | refine Post.again_ret ?_) | refine SW.nil ?_ | (show SW _ _ _ _ (⟨_, _, _, _, _, some _⟩ :: _) _ _; first | refine SW.skip_f rfl rfl (by with_reducible rfl) rfl ?_ | refine SW.skip_u rfl rfl (by with_reducible rfl) rfl ?_ | refine SW.want rfl rfl ?_) | refine SW.pure rfl rfl ?_ | (show SW _ _ _ _ (⟨_, Op.fieldAddr _ _ _, _, _, _, none⟩ :: _) _ _; refine SW.st (st_field rfl) rfl ?_) | (show SW _ _ _ _ (⟨_, Op.load _ _, _, _, _, none⟩ :: _) _ _; first | refine SW.st (st_loads rfl rfl ((fun _ _ => hb1.cell))) rfl ?_ | refine SW.st (st_loads rfl rfl ((fun _ _ => hb7'.cell))) rfl ?_ | refine SW.st (st_load rfl (hb7'.cell rfl)) rfl ?_) | (show SW _ _ _ _ (⟨_, Op.call ⟨.value (.func _), _, _⟩, _, _, _, none⟩ :: _) _ _; refine SW.qcall rfl rfl (fun w1 hw1 => (cF _ (Ext.trans hw hw1))) ?_) | (refine SW.qcallv rfl rfl rfl (fun w1 _ => cD w1) ?_) | exact SW.qnil rfl)
       exact Post.ret1 rfl rfl ⟨_, rfl, hw, by rw [hfail]; rfl⟩
      ·have cF : ∀ w', Ext w w' → Ans Tryd.prog 55 [.agg (encZ r).toArray, .agg (encBk z.Free[k]).toArray] w' fun v _ => v = .bool false := fun w' _ => by
        have := Zfits_ans r z.Free[k] w' (by omega)
        rwa [eF, eT, decide_eq_false hfz] at this
       repeat' (first | (show CW _ _ _ _ _ _; first | refine CW.seq ?_ | refine CW.region ?_ | refine CW.condtr rfl (by with_reducible rfl) ?_ | refine CW.ret ?_ | (apply CW.quiet1 mixed; (· kernel_rfl); rotate_left; intro w1 hw1; replace hw := Ext.trans hw hw1; replace hb1 := hb1.ext hw1; replace hb7' := hb7'.ext hw1; clear hw1; rotate_right)) | (show Post _ _ _ _ _; first | refine Post.seq ?_ | refine Post.seq_ret ?_ | refine Post.blk_ret ?_ | refine Post.again_ret ?_) | refine SW.nil ?_ | (show SW _ _ _ _ (⟨_, _, _, _, _, some _⟩ :: _) _ _; first | refine SW.skip_f rfl rfl (by with_reducible rfl) rfl ?_ | refine SW.skip_u rfl rfl (by with_reducible rfl) rfl ?_ | refine SW.skip rfl rfl rfl rfl ?_) | refine SW.pure rfl rfl ?_ | (show SW _ _ _ _ (⟨_, Op.load _ _, _, _, _, none⟩ :: _) _ _; first | refine SW.st (st_loads rfl rfl ((fun _ _ => hb1.cell))) rfl ?_ | refine SW.st (st_loads rfl rfl ((fun _ _ => hb7'.cell))) rfl ?_) | (show SW _ _ _ _ (⟨_, Op.call ⟨.value (.func _), _, _⟩, _, _, _, none⟩ :: _) _ _; refine SW.qcall rfl rfl (fun w1 hw1 => (cF _ (Ext.trans hw hw1))) ?_) | exact SW.qnil rfl)
       exact Post.ret1 rfl rfl ⟨_, rfl, hw, by rw [hfail]; rfl⟩
    ·repeat' (first | (show CW _ _ _ _ _ _; first | refine CW.seq ?_ | refine CW.region ?_ | refine CW.condd_f rfl (by omega) ?_ | refine CW.ret ?_ | refine CW.exit ?_) | (show Post _ _ _ _ _; first | refine Post.seq ?_ | refine Post.seq_exit ?_ | refine Post.hit ?_ | refine Post.again_exit ?_) | refine SW.nil ?_ | refine SW.pure rfl rfl ?_)
     refine Post.ret1 rfl rfl ⟨_, rfl, hw, ?_⟩
     rw [zoneB_t ⟨by rw [← eF, ← eT]; exact hok, hl8, hty, fun i h => hI i h (by omega), fun i h => hN i h (by omega)⟩]; rfl
   ·rw [hodd] at cO
    repeat' (first | (show CW _ _ _ _ _ _; first | refine CW.seq ?_ | refine CW.region ?_ | refine CW.condtr rfl (by with_reducible rfl) ?_ | refine CW.condn_f rfl (by omega) ?_ | refine CW.skip ?_ | refine CW.ret ?_) | (show Post _ _ _ _ _; first | refine Post.seq ?_ | refine Post.seq_ret ?_) | refine SW.nil ?_ | (show SW _ _ _ _ (⟨_, _, _, _, _, some _⟩ :: _) _ _; first | refine SW.want_f rfl rfl (by with_reducible rfl) ?_ | refine SW.splitn_f rfl rfl rfl (by omega) ?_) | refine SW.pure rfl rfl ?_ | (show SW _ _ _ _ (⟨_, Op.fieldAddr _ _ _, _, _, _, none⟩ :: _) _ _; refine SW.st (st_field rfl) rfl ?_) | (show SW _ _ _ _ (⟨_, Op.binOp _ _ _ _ _, _, _, _, none⟩ :: _) _ _; first | refine SW.st (st_sub rfl rfl (by omega) (by omega)) rfl ?_ | refine SW.st (st_quo rfl rfl (by omega) (by omega) (by omega)) rfl ?_) | (show SW _ _ _ _ (⟨_, Op.call ⟨.builtin .len, _, _⟩, _, _, _, none⟩ :: _) _ _; refine SW.st (st_len rfl) rfl ?_) | (show SW _ _ _ _ (⟨_, Op.load _ _, _, _, _, none⟩ :: _) _ _; refine SW.st (st_load rfl (hb1.cell rfl)) rfl ?_) | (show SW _ _ _ _ (⟨_, Op.call ⟨.value (.func _), _, _⟩, _, _, _, none⟩ :: _) _ _; (refine SW.call rfl rfl (cO _ hw) ?_; intro v w1 hw1 hv; subst hv; replace hw := Ext.trans hw hw1; replace hb1 := hb1.ext hw1; clear hw1)))
    refine Post.ret1 rfl rfl ⟨_, rfl, hw, ?_⟩
    rw [zoneB_f (fun h => by
     rw [List.any_eq_true] at hodd
     obtain ⟨t, h1, h2⟩ := hodd
     rw [oddB_f (h.types t h1)] at h2
     cases h2)]; rfl
  ·repeat' (refine SW.pure rfl rfl ?_)
   refine SW.alloc rfl fun b3 w1 hw1 hb3b hb3 => ?_
   have hb3w : w.heap.size ≤ b3 := Nat.le_trans hw.size hb3b
   have hne_b1 : b1 ≠ b3 := by have := hb1.lt; omega
   replace hw := Ext.trans hw hw1
   replace hb1 := hb1.ext hw1
   replace hs := hs.ext hw1
   refine SW.storeAgg hb3 rfl rfl rfl rfl (one_z _) fun w2 hb3' hg => ?_
   replace hw := hw.own hb3w hg
   replace hs := hs.blk hb3 hg rfl rfl
   replace hb1 := hb1.grown hg (by simpa using hne_b1)
   replace hb3 := hb3'
   clear hb3' hw1 hg hb3b
   repeat' (first | (show CW _ _ _ _ _ _; first | refine CW.seq ?_ | refine CW.region ?_ | refine CW.condn_t rfl (by omega) ?_ | refine CW.ret ?_) | (show Post _ _ _ _ _; first | refine Post.seq ?_ | refine Post.seq_ret ?_) | refine SW.nil ?_ | (show SW _ _ _ _ (⟨_, _, _, _, _, some _⟩ :: _) _ _; first | refine SW.want_f rfl rfl (by with_reducible rfl) ?_ | refine SW.splitn_f rfl rfl rfl (by omega) ?_) | refine SW.pure rfl rfl ?_ | (show SW _ _ _ _ (⟨_, Op.fieldAddr _ _ _, _, _, _, none⟩ :: _) _ _; refine SW.st (st_field rfl) rfl ?_) | (show SW _ _ _ _ (⟨_, Op.binOp _ _ _ _ _, _, _, _, none⟩ :: _) _ _; first | refine SW.st (st_sub rfl rfl (by omega) (by omega)) rfl ?_ | refine SW.st (st_quo rfl rfl (by omega) (by omega) (by omega)) rfl ?_) | (show SW _ _ _ _ (⟨_, Op.call ⟨.builtin .len, _, _⟩, _, _, _, none⟩ :: _) _ _; refine SW.st (st_len rfl) rfl ?_) | (show SW _ _ _ _ (⟨_, Op.load _ _, _, _, _, none⟩ :: _) _ _; refine SW.st (st_load rfl (hb1.cell rfl)) rfl ?_))
   refine Post.ret1 rfl rfl ⟨_, rfl, hw, ?_⟩
   rw [zoneB_f (fun h => hl8 h.len)]; rfl
 ·rw [zoneNewV_f hok] at hv
  obtain ⟨s, rfl, hs⟩ := hv
  repeat' (refine SW.pure rfl rfl ?_)
  refine SW.alloc rfl fun b3 w1 hw1 hb3b hb3 => ?_
  have hb3w : w.heap.size ≤ b3 := Nat.le_trans hw.size hb3b
  have hne_b1 : b1 ≠ b3 := by have := hb1.lt; omega
  replace hw := Ext.trans hw hw1
  replace hb1 := hb1.ext hw1
  replace hs := hs.ext hw1
  refine SW.storeAgg hb3 rfl rfl rfl rfl (one_z _) fun w2 hb3' hg => ?_
  replace hw := hw.own hb3w hg
  replace hs := hs.blk hb3 hg rfl rfl
  replace hb1 := hb1.grown hg (by simpa using hne_b1)
  replace hb3 := hb3'
  clear hb3' hw1 hg hb3b
  repeat' (first | (show CW _ _ _ _ _ _; first | refine CW.seq ?_ | refine CW.region ?_ | refine CW.condtr rfl (by with_reducible rfl) ?_ | refine CW.ret ?_) | (show Post _ _ _ _ _; first | refine Post.seq ?_ | refine Post.seq_ret ?_) | refine SW.nil ?_ | (show SW _ _ _ _ (⟨_, _, _, _, _, some _⟩ :: _) _ _; first | refine SW.skip_f rfl rfl (by with_reducible rfl) rfl ?_ | refine SW.splitn_t rfl rfl rfl (by omega) ?_) | refine SW.pure rfl rfl ?_)
  refine Post.ret1 rfl rfl ⟨_, rfl, hw, ?_⟩
  rw [zoneB_f (fun h => hok (by rw [eF, eT]; exact h.ok))]; rfl
end Go.Proofs.YtfommgdbahemfaaDoor
