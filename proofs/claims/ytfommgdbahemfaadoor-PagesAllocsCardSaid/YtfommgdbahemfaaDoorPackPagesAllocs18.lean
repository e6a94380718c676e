/-
  Texts of the claim PagesAllocs, part 18: what its theorem leans on.
-/
import Derived.Test.YtfommgdbahemfaaDoorPackPagesAllocs2
import Derived.Test.YtfommgdbahemfaaDoorPackPagesAllocs17
import Derived.Test.YtfommgdbahemfaaDoorPackPagesAllocs11
import Derived.Test.YtfommgdbahemfaaDoorPackPagesAllocs6
set_option linter.unusedVariables false
namespace Go.Proofs.YtfommgdbahemfaaDoor
open Go.RowKit
section
variable {P : Program} {L : Env} {w : World} {d : Option Nat} {T : TypeId} {pos : String} {af : Array Edge} {g : Option (Nat × Bool)}
theorem st_andN {t ty : TypeId} {x y : Operand} {i j : Int} (a b : Nat) (hx : opv L x = some (.int .i64 i)) (hy : opv L y = some (.int .i64 j)) (ha : i = (a : Int)) (hb : j = (b : Int)) (ha' : a < 9223372036854775808) (hb' : b < 9223372036854775808) :
  St P ⟨d, .binOp .and t x y ty, T, pos, af, g⟩ L w (.int .i64 ((a &&& b : Nat) : Int)) :=
 ⟨fun n A hA w' _ => by
  have e1 := hA.eval hx
  have e2 := hA.eval hy
  subst ha hb
  generalize A.eval = ρ at *
  have hlt : a &&& b < 2 ^ 63 := Nat.and_lt_two_pow _ (by omega)
  have e : (BitVec.ofInt 64 (a : Int) &&& BitVec.ofInt 64 (b : Int)).toNat = a &&& b := by
   rw [BitVec.toNat_and, BitVec.ofInt_natCast, BitVec.ofInt_natCast, BitVec.toNat_ofNat, BitVec.toNat_ofNat, Nat.mod_eq_of_lt (by omega), Nat.mod_eq_of_lt (by omega)]
  have hb1 : (Op.intBits .and .i64 (a : Int) (b : Int)).run P w' = .ok (.int .i64 ((a &&& b : Nat) : Int)) w' := by
   have : Op.intBits .and .i64 (a : Int) (b : Int) = (pure (.int .i64 (IntKind.i64.wrap ((BitVec.ofInt 64 (a : Int) &&& BitVec.ofInt 64 (b : Int)).toNat : Nat))) : Sem Value) := rfl
   rw [this, e, wrap_in (by omega) (by omega)]
   rfl
  have hb2 : (binOp .and t (.int .i64 (a : Int)) (.int .i64 (b : Int))).run P w' = .ok (.int .i64 ((a &&& b : Nat) : Int)) w' := by
   have : binOp .and t (.int .i64 (a : Int)) (.int .i64 (b : Int)) = Op.intBits .and .i64 (a : Int) (b : Int) := by simp [binOp]
   rw [this, hb1]
  simp [execOp, e1, e2, eqGuard, hb2]⟩
end
end Go.Proofs.YtfommgdbahemfaaDoor
set_option linter.unusedVariables false
set_option linter.unusedSimpArgs false
namespace Go.Proofs.YtfommgdbahemfaaDoor
open Go.RowKit
def flagV (f j : Int) : Int := ((f.toNat &&& j.toNat : Nat) : Int)
theorem flag_bits : ∀ f : Nat, f < 16 → (f &&& 1 = f % 2) ∧ (f &&& 2 = f / 2 % 2 * 2) ∧ (f &&& 4 = f / 4 % 2 * 4) ∧ (f &&& 8 = f / 8 * 8) := by decide
theorem flagV_all {f : Int} (h : 0 ≤ f ∧ f ≤ 15) : flagV f 1 = f % 2 ∧ flagV f 2 = f / 2 % 2 * 2 ∧ flagV f 4 = f / 4 % 2 * 4 ∧ flagV f 8 = f / 8 * 8 := by
 obtain ⟨n, rfl⟩ : ∃ n : Nat, f = n := ⟨f.toNat, by omega⟩
 obtain ⟨h1, h2, h3, h4⟩ := flag_bits n (by omega)
 unfold flagV
 simp only [Int.toNat_natCast, show (1 : Int).toNat = 1 from rfl, show (2 : Int).toNat = 2 from rfl, show (4 : Int).toNat = 4 from rfl, show (8 : Int).toNat = 8 from rfl, h1, h2, h3, h4]
 omega
theorem st_flag {P : Program} {L : Env} {w : World} {d : Option Nat} {T t ty : TypeId} {pos : String} {af : Array Edge} {g : Option (Nat × Bool)} {x y : Operand} {f j : Int} (hx : opv L x = some (.int .i64 f)) (hy : opv L y = some (.int .i64 j)) (hf : 0 ≤ f ∧ f ≤ 15) (hj : 0 ≤ j ∧ j ≤ 15) :
  St P ⟨d, .binOp .and t x y ty, T, pos, af, g⟩ L w (.int .i64 (flagV f j)) := st_andN f.toNat j.toNat hx hy (by omega) (by omega) (by omega) (by omega)
theorem typeOf_ans (f : Int) (w : World) : Ans Tryd.prog 43 [.int .i64 f] w fun v _ => v = .tuple #[.int .i64 (if 0 ≤ typeF f then typeF f else 0), .bool (decide (0 ≤ typeF f))] := by
 refine ans_of Tryd.func43 rfl Tryd.ntmps43 rfl ?_
 have hw := Ext.refl w
 by_cases hf : 0 ≤ f ∧ f ≤ 15
 ·obtain ⟨q1, q2, q4, q8⟩ := flagV_all hf
  obtain ⟨t, ht⟩ : ∃ t, typeF f = t := ⟨_, rfl⟩
  have hc : (f / 2 % 4 = 0 ∧ t = 0) ∨ (f / 2 % 4 = 1 ∧ t = 1) ∨ (f / 2 % 4 = 2 ∧ t = 2) ∨ (f / 2 % 4 = 3 ∧ t = -1) := by
   unfold typeF at ht
   rw [if_pos hf] at ht
   split at ht
   ·omega
   ·split at ht
    ·omega
    ·split at ht
     ·omega
     ·omega
  rw [ht]
  rcases hc with ⟨h1, rfl⟩ | ⟨h1, rfl⟩ | ⟨h1, rfl⟩ | ⟨h1, rfl⟩
  all_goals
   repeat' (first | (show CW _ _ _ _ _ _; first | refine CW.seq ?_ | refine CW.region ?_ | refine CW.block ?_ | refine CW.condfr rfl (by with_reducible rfl) ?_ | refine CW.condn_t rfl (by omega) ?_ | refine CW.condn_f rfl (by omega) ?_ | refine CW.skip ?_ | refine CW.ret ?_) | (show Post _ _ _ _ _; first | refine Post.seq ?_ | refine Post.seq_ret ?_ | refine Post.blk ?_ | refine Post.blk_ret ?_) | refine SW.nil ?_ | (show SW _ _ _ _ (⟨_, _, _, _, _, some _⟩ :: _) _ _; first | refine SW.want_t rfl rfl (by with_reducible rfl) ?_ | refine SW.want_f rfl rfl (by with_reducible rfl) ?_ | refine SW.skip_t rfl rfl (by with_reducible rfl) rfl ?_ | refine SW.splitd_f rfl rfl rfl (by omega) ?_ | refine SW.splitn_t rfl rfl rfl (by omega) ?_ | refine SW.splitn_f rfl rfl rfl (by omega) ?_) | refine SW.pure rfl rfl ?_ | (refine SW.st (st_flag rfl rfl (by omega) (by decide)) rfl ?_))
   all_goals first | (exfalso; omega) | skip
   all_goals exact Post.ret2 rfl rfl rfl ⟨_, rfl, hw, rfl⟩
 ·have e : typeF f = -1 := by unfold typeF; rw [if_neg hf]
  rw [e]
  repeat' (first | (show CW _ _ _ _ _ _; first | refine CW.seq ?_ | refine CW.region ?_ | refine CW.condtr rfl (by with_reducible rfl) ?_ | refine CW.ret ?_) | (show Post _ _ _ _ _; first | refine Post.seq ?_ | refine Post.seq_ret ?_) | refine SW.nil ?_ | (show SW _ _ _ _ (⟨_, _, _, _, _, some _⟩ :: _) _ _; first | refine SW.want_f rfl rfl (by with_reducible rfl) ?_ | refine SW.skip_f rfl rfl (by with_reducible rfl) rfl ?_ | refine SW.skip_u rfl rfl (by with_reducible rfl) rfl ?_ | refine SW.splitd_t rfl rfl rfl (by omega) ?_ | refine SW.splitd rfl rfl rfl (fun h => ?_) (fun h => ?_)) | refine SW.pure rfl rfl ?_)
  all_goals first | (exfalso; omega) | skip
  all_goals exact Post.ret2 rfl rfl rfl ⟨_, rfl, hw, rfl⟩
theorem typeAsked_ans (f : Int) (w : World) : Ans Tryd.prog 49 [.int .i64 f] w fun v _ => v = .int .i64 (typeF f) := by
 refine ans_of Tryd.func49 rfl Tryd.ntmps49 rfl ?_
 have hw := Ext.refl w
 by_cases hf : 0 ≤ f ∧ f ≤ 15
 ·obtain ⟨t, ht⟩ : ∃ t, typeF f = t := ⟨_, rfl⟩
  have hc : (f / 2 % 4 = 0 ∧ t = 0) ∨ (f / 2 % 4 = 1 ∧ t = 1) ∨ (f / 2 % 4 = 2 ∧ t = 2) ∨ (f / 2 % 4 = 3 ∧ t = -1) := by
   unfold typeF at ht
   rw [if_pos hf] at ht
   split at ht
   ·omega
   ·split at ht
    ·omega
    ·split at ht
     ·omega
     ·omega
  rw [ht]
  have htm : (f / 2).tmod 4 = f / 2 % 4 := Int.tmod_eq_emod_of_nonneg (by omega)
  rcases hc with ⟨h1, rfl⟩ | ⟨h1, rfl⟩ | ⟨h1, rfl⟩ | ⟨h1, rfl⟩
  all_goals
   repeat' (first | (show CW _ _ _ _ _ _; first | refine CW.seq ?_ | refine CW.region ?_ | refine CW.block ?_ | refine CW.condd_t rfl (by omega) ?_ | refine CW.condd_f rfl (by omega) ?_ | refine CW.condn_f rfl (by omega) ?_ | refine CW.skip ?_ | refine CW.ret ?_) | (show Post _ _ _ _ _; first | refine Post.seq ?_ | refine Post.seq_ret ?_ | refine Post.blk ?_ | refine Post.blk_ret ?_) | refine SW.nil ?_ | refine SW.pure rfl rfl ?_ | (show SW _ _ _ _ (⟨_, Op.binOp _ _ _ _ _, _, _, _, none⟩ :: _) _ _; first | refine SW.st (st_quo rfl rfl (by omega) (by omega) (by omega)) rfl ?_ | refine SW.st (st_rem rfl rfl (by omega)) rfl ?_) | (show SW _ _ _ _ (⟨_, Op.call ⟨.value (.func _), _, _⟩, _, _, _, none⟩ :: _) _ _; (refine SW.call rfl rfl (In_ans _ _ _ _) ?_; intro v w1 hw1 hv; subst hv; replace hw := Ext.trans hw hw1; clear hw1)))
   all_goals first | (exfalso; omega) | skip
   all_goals exact Post.ret1 rfl rfl ⟨_, rfl, hw, rfl⟩
 ·have e : typeF f = -1 := by unfold typeF; rw [if_neg hf]
  rw [e]
  repeat' (first | (show CW _ _ _ _ _ _; first | refine CW.seq ?_ | refine CW.region ?_ | refine CW.condn_t rfl (by omega) ?_ | refine CW.ret ?_) | (show Post _ _ _ _ _; first | refine Post.seq ?_ | refine Post.seq_ret ?_) | refine SW.nil ?_ | refine SW.pure rfl rfl ?_ | (show SW _ _ _ _ (⟨_, Op.call ⟨.value (.func _), _, _⟩, _, _, _, none⟩ :: _) _ _; (refine SW.call rfl rfl (In_ans _ _ _ _) ?_; intro v w1 hw1 hv; subst hv; replace hw := Ext.trans hw hw1; clear hw1)))
  all_goals first | (exfalso; omega) | skip
  all_goals exact Post.ret1 rfl rfl ⟨_, rfl, hw, rfl⟩
structure MinOk (M : List Int) (m0 m1 : Int) : Prop where
 eq : M = [m0, m1]
 b0 : 0 ≤ m0 ∧ m0 ≤ 256
 b1 : 0 ≤ m1 ∧ m1 ≤ 256
theorem hpages.held_ans (r : HRow) (u0 u1 : ZRow) (s : Zone × Zone) (M : List Int) (m0 m1 : Int) (zi : Nat) (f : Int) (w : World) (hm : Sl w 1 encI r.Mins.A r.Mins.n M) (hz : Sl w 4 encZ r.Zones.A r.Zones.n [u0, u1]) (hM : MinOk M m0 m1) (h1 : u1.From = s.2.From) (h2 : u1.To = s.2.To) (hF : 0 ≤ s.2.From ∧ s.2.From ≤ 256) (hT : s.2.From ≤ s.2.To ∧ s.2.To ≤ 256) (hzi : zi < 2) (hf : 0 ≤ f ∧ f ≤ 15) :
  Ans Tryd.prog 125 [.agg (encH r).toArray, .int .i64 (zi : Int), .int .i64 f] w fun v _ => v = .int .i64 (heldV m0 m1 s zi f) := by
 refine ans_of Tryd.func125 rfl Tryd.ntmps125 rfl ?_
 refine CW.seq (CW.region (SW.box rfl rfl fun b1 w1 hw hb1b hb1 => ?_))
 obtain ⟨rfl, hb0, hb1'⟩ := hM
 obtain ⟨q1, q2, q4, q8⟩ := flagV_all hf
 have hA := hz.base
 have hB := hm.base
 have hn : 2 = r.Zones.n := hz.len
 have hmn : 2 = r.Mins.n := hm.len
 have k0 : 1 < r.Zones.n := by omega
 have k1 : zi < r.Mins.n := by omega
 have f0 := hz.fld k0 (j := 0) (u := .int .i64 u1.From) rfl
 have f1 := hz.fld k0 (j := 1) (u := .int .i64 u1.To) rfl
 obtain ⟨mz, hmz⟩ : ∃ mz, (if (zi : Int) = 0 then m0 else m1) = mz := ⟨_, rfl⟩
 have hmv : [m0, m1][zi]'(by simpa using hzi) = mz := by
  rcases Nat.lt_or_ge zi 1 with h | h
  ·obtain rfl : zi = 0 := by omega
   rw [← hmz]; rfl
  ·obtain rfl : zi = 1 := by omega
   rw [← hmz]; rfl
 have fm := hm.one k1 (congrArg encI hmv)
 have hmb : 0 ≤ mz ∧ mz ≤ 256 := by rw [← hmz]; split <;> omega
 obtain ⟨v, hv⟩ : ∃ v, heldV m0 m1 s zi f = v := ⟨_, rfl⟩
 have hv' := hv
 unfold heldV at hv'
 rw [hmz] at hv'
 rw [hv]
 have htm : f.tmod 2 = f % 2 := Int.tmod_eq_emod_of_nonneg (by omega)
 have hc : (8 ≤ f ∨ f < 8) ∧ ((zi = 0 ∧ f % 2 = 0) ∨ (zi = 0 ∧ f % 2 = 1) ∨ zi = 1) := by omega
 obtain ⟨hc1, hc2⟩ := hc
 rcases hc1 with hc1 | hc1 <;> rcases hc2 with ⟨hc2, hc3⟩ | ⟨hc2, hc3⟩ | hc2
 all_goals
  repeat' (first | (show CW _ _ _ _ _ _; first | refine CW.seq ?_ | refine CW.region ?_ | refine CW.condfr rfl (by with_reducible rfl) ?_ | refine CW.condd_t rfl (by omega) ?_ | refine CW.condd_f rfl (by omega) ?_ | refine CW.condn_t rfl (by omega) ?_ | refine CW.condn_f rfl (by omega) ?_ | refine CW.skip ?_ | refine CW.ret ?_ | (apply CW.quiet1 mixed; (· kernel_rfl); rotate_left; intro w1 hw1; replace hw := Ext.trans hw hw1; replace hb1 := hb1.ext hw1; clear hw1; rotate_right)) | (show Post _ _ _ _ _; refine Post.seq ?_) | refine SW.nil ?_ | (show SW _ _ _ _ (⟨_, _, _, _, _, some _⟩ :: _) _ _; first | refine SW.want_t rfl rfl (by with_reducible rfl) ?_ | refine SW.skip_t rfl rfl (by with_reducible rfl) rfl ?_ | refine SW.splitd_t rfl rfl rfl (by omega) ?_ | refine SW.splitd_f rfl rfl rfl (by omega) ?_) | refine SW.pure rfl rfl ?_ | (show SW _ _ _ _ (⟨_, Op.fieldAddr _ _ _, _, _, _, none⟩ :: _) _ _; refine SW.st (st_field rfl) rfl ?_) | (show SW _ _ _ _ (⟨_, Op.binOp _ _ _ _ _, _, _, _, none⟩ :: _) _ _; first | refine SW.st (st_add rfl rfl (by omega) (by omega)) rfl ?_ | refine SW.st (st_sub rfl rfl (by omega) (by omega)) rfl ?_ | refine SW.st (st_quo rfl rfl (by omega) (by omega) (by omega)) rfl ?_) | (show SW _ _ _ _ (⟨_, Op.indexAddr _ _ _, _, _, _, none⟩ :: _) _ _; refine SW.st (st_indexN rfl rfl (by assumption) (by omega)) rfl ?_) | (show SW _ _ _ _ (⟨_, Op.load _ _, _, _, _, none⟩ :: _) _ _; first | refine SW.st (st_load rfl (hb1.cell (i := 0) (v := .slice r.Zones.A r.Zones.n r.Zones.c) rfl)) rfl ?_ | refine SW.st (st_load rfl (hb1.cell (i := 1) (v := .slice r.Mins.A r.Mins.n r.Mins.c) rfl)) rfl ?_ | refine SW.st (st_loadx hw rfl f0) rfl ?_ | refine SW.st (st_loadx hw rfl f1) rfl ?_ | refine SW.st (st_loadx hw rfl fm) rfl ?_) | (refine SW.st (st_flag rfl rfl (by omega) (by decide)) rfl ?_) | exact SW.qnil rfl)
  all_goals first | (exfalso; omega) | skip
  refine Post.ret1 rfl rfl ⟨_, rfl, hw, ?_⟩
  congr 1
  omega
theorem hpaddockref.heldBack_ans (r : HRow) (u0 u1 : ZRow) (s : Zone × Zone) (M : List Int) (m0 m1 : Int) (zi : Nat) (f : Int) (w : World) (hm : Sl w 1 encI r.Mins.A r.Mins.n M) (hz : Sl w 4 encZ r.Zones.A r.Zones.n [u0, u1]) (hM : MinOk M m0 m1) (h1 : u1.From = s.2.From) (h2 : u1.To = s.2.To) (hF : 0 ≤ s.2.From ∧ s.2.From ≤ 256) (hT : s.2.From ≤ s.2.To ∧ s.2.To ≤ 256) (hzi : zi < 2) (hf : 0 ≤ f ∧ f ≤ 15) :
  Ans Tryd.prog 130 [.agg (encH r).toArray, .int .i64 (zi : Int), .int .i64 f] w fun v _ => v = .int .i64 (heldV m0 m1 s zi f) := by
 refine ans_of Tryd.func130 rfl Tryd.ntmps130 rfl ?_
 refine CW.seq (CW.region (SW.box rfl rfl fun b1 w1 hw hb1b hb1 => ?_))
 obtain ⟨rfl, hb0, hb1'⟩ := hM
 obtain ⟨q1, q2, q4, q8⟩ := flagV_all hf
 have hA := hz.base
 have hB := hm.base
 have hn : 2 = r.Zones.n := hz.len
 have hmn : 2 = r.Mins.n := hm.len
 have k0 : 1 < r.Zones.n := by omega
 have k1 : zi < r.Mins.n := by omega
 have f0 := hz.fld k0 (j := 0) (u := .int .i64 u1.From) rfl
 have f1 := hz.fld k0 (j := 1) (u := .int .i64 u1.To) rfl
 obtain ⟨mz, hmz⟩ : ∃ mz, (if (zi : Int) = 0 then m0 else m1) = mz := ⟨_, rfl⟩
 have hmv : [m0, m1][zi]'(by simpa using hzi) = mz := by
  rcases Nat.lt_or_ge zi 1 with h | h
  ·obtain rfl : zi = 0 := by omega
   rw [← hmz]; rfl
  ·obtain rfl : zi = 1 := by omega
   rw [← hmz]; rfl
 have fm := hm.one k1 (congrArg encI hmv)
 have hmb : 0 ≤ mz ∧ mz ≤ 256 := by rw [← hmz]; split <;> omega
 obtain ⟨v, hv⟩ : ∃ v, heldV m0 m1 s zi f = v := ⟨_, rfl⟩
 have hv' := hv
 unfold heldV at hv'
 rw [hmz] at hv'
 rw [hv]
 have htm : f.tmod 2 = f % 2 := Int.tmod_eq_emod_of_nonneg (by omega)
 have hc : (8 ≤ f ∨ f < 8) ∧ ((zi = 0 ∧ f % 2 = 0) ∨ (zi = 0 ∧ f % 2 = 1) ∨ zi = 1) := by omega
 obtain ⟨hc1, hc2⟩ := hc
 rcases hc1 with hc1 | hc1 <;> rcases hc2 with ⟨hc2, hc3⟩ | ⟨hc2, hc3⟩ | hc2
 all_goals
  repeat' (first | (show CW _ _ _ _ _ _; first | refine CW.seq ?_ | refine CW.region ?_ | refine CW.condfr rfl (by with_reducible rfl) ?_ | refine CW.condd_t rfl (by omega) ?_ | refine CW.condd_f rfl (by omega) ?_ | refine CW.skip ?_ | refine CW.ret ?_ | (apply CW.quiet1 mixed; (· kernel_rfl); rotate_left; intro w1 hw1; replace hw := Ext.trans hw hw1; replace hb1 := hb1.ext hw1; clear hw1; rotate_right)) | (show Post _ _ _ _ _; refine Post.seq ?_) | refine SW.nil ?_ | (show SW _ _ _ _ (⟨_, _, _, _, _, some _⟩ :: _) _ _; first | refine SW.want_t rfl rfl (by with_reducible rfl) ?_ | refine SW.skip_t rfl rfl (by with_reducible rfl) rfl ?_ | refine SW.splitd_t rfl rfl rfl (by omega) ?_ | refine SW.splitd_f rfl rfl rfl (by omega) ?_) | refine SW.pure rfl rfl ?_ | (show SW _ _ _ _ (⟨_, Op.fieldAddr _ _ _, _, _, _, none⟩ :: _) _ _; refine SW.st (st_field rfl) rfl ?_) | (show SW _ _ _ _ (⟨_, Op.binOp _ _ _ _ _, _, _, _, none⟩ :: _) _ _; first | refine SW.st (st_add rfl rfl (by omega) (by omega)) rfl ?_ | refine SW.st (st_sub rfl rfl (by omega) (by omega)) rfl ?_ | refine SW.st (st_quo rfl rfl (by omega) (by omega) (by omega)) rfl ?_ | refine SW.st (st_rem rfl rfl (by omega)) rfl ?_) | (show SW _ _ _ _ (⟨_, Op.indexAddr _ _ _, _, _, _, none⟩ :: _) _ _; refine SW.st (st_indexN rfl rfl (by assumption) (by omega)) rfl ?_) | (show SW _ _ _ _ (⟨_, Op.load _ _, _, _, _, none⟩ :: _) _ _; first | refine SW.st (st_load rfl (hb1.cell (i := 0) (v := .slice r.Zones.A r.Zones.n r.Zones.c) rfl)) rfl ?_ | refine SW.st (st_load rfl (hb1.cell (i := 1) (v := .slice r.Mins.A r.Mins.n r.Mins.c) rfl)) rfl ?_ | refine SW.st (st_loadx hw rfl f0) rfl ?_ | refine SW.st (st_loadx hw rfl f1) rfl ?_ | refine SW.st (st_loadx hw rfl fm) rfl ?_) | exact SW.qnil rfl)
  all_goals first | (exfalso; omega) | skip
  refine Post.ret1 rfl rfl ⟨_, rfl, hw, ?_⟩
  congr 1
  omega
end Go.Proofs.YtfommgdbahemfaaDoor
set_option linter.unusedVariables false
set_option linter.unusedSimpArgs false
namespace Go.Proofs.YtfommgdbahemfaaDoor
open Go.RowKit
inductive TkR (m0 m1 : Int) (s : Zone × Zone) (zi o t f : Int) : Option ((Zone × Zone) × Int) → Prop
 | poor (he : ¬ enoughP m0 m1 s zi o f) : TkR m0 m1 s zi o t f none
 | none {u : Zone × Int × Int} (he : enoughP m0 m1 s zi o f) (ht : TakeR (zof s zi) o t u) (hu : u.2.2 ≠ 0) : TkR m0 m1 s zi o t f none
 | ok {u : Zone × Int × Int} (he : enoughP m0 m1 s zi o f) (ht : TakeR (zof s zi) o t u) (hu : u.2.2 = 0) : TkR m0 m1 s zi o t f (some (zset s zi u.1, u.2.1))
def tkV : Option ((Zone × Zone) × Int) → Value
 | Option.none => .tuple #[.int .i64 0, .bool false]
 | some q => .tuple #[.int .i64 q.2, .bool true]
def tkS (s : Zone × Zone) : Option ((Zone × Zone) × Int) → Zone × Zone
 | Option.none => s
 | some q => q.1
theorem TkR.vs {m0 m1 : Int} {s : Zone × Zone} {zi o t f : Int} {q : Option ((Zone × Zone) × Int)} (h : TkR m0 m1 s zi o t f q) (hv : VS s) : VS (tkS s q) := by
 cases h with
 | poor | none => exact hv
 | ok he ht hu => exact hv.set_ (ht.keep hu).1
theorem HS.zone {wb w : World} {k : HK} {p : HP} {s : Zone × Zone} {L : List PList} (h : HS wb w k p s L) (hv : VS s) {zi : Nat} (hz : zi < 2) : ∃ u, [p.u0, p.u1][zi]'hz = u ∧ OwnZ w wb.heap.size u (zof s zi) := by
 rcases Nat.lt_or_ge zi 1 with h1 | h1
 ·obtain rfl : zi = 0 := by omega
  exact ⟨p.u0, rfl, h.zs.z0⟩
 ·obtain rfl : zi = 1 := by omega
  exact ⟨p.u1, rfl, h.zs.z1⟩
set_option maxHeartbeats 2000000 in
theorem take_ans (k : HK) (p : HP) (s : Zone × Zone) (L : List PList) (m0 m1 : Int) (zi : Nat) (o t f : Int) (wb w : World) (H : HS wb w k p s L) (hO : OthW w) (hM : MinOk k.M m0 m1) (hv : VS s) (hzi : zi < 2) (ho : 0 ≤ o ∧ o ≤ 4) (hf : 0 ≤ f ∧ f ≤ 15) :
  AnsX Tryd.prog 91 [.pointer (some ⟨k.b, 0, none⟩), .int .i64 (zi : Int), .int .i64 o, .int .i64 t, .int .i64 f] w fun v w' => ∃ q, TkR m0 m1 s zi o t f q ∧ v = tkV q ∧ ∃ p', HS wb w' k p' (tkS s q) L ∧ KpH w k p w' p' := by
 refine ansx_of Tryd.func91 rfl Tryd.ntmps91 rfl ?_
 have hw := Ext.refl w
 have H0 := H
 obtain ⟨uz, huz, hoz⟩ := H.zone hv hzi
 have hzm := hv.zof (zi : Int)
 obtain ⟨z, hz⟩ : ∃ z, zof s (zi : Int) = z := ⟨_, rfl⟩
 rw [hz] at hoz hzm
 obtain ⟨q1, q2, q3, q4⟩ := may_fit hoz hzm
 have hA := H.zs.row.sl.base
 have fz := H.zs.row.sl.all hzi
 rw [huz] at fz
 have hqB := zoneB_iff.2 hzm
 have cP : ∀ w', Ext w w' → Ans Tryd.prog 124 [.agg (encZ uz).toArray] w' fun v _ => v = .tuple #[.int .i64 (pagesOf z.Free), .int .i64 0] := fun w' hx => by
  have := ZPages_ans uz z w' (hoz.ext hx).rd (by omega) (by omega) ⟨by omega, by omega⟩ ⟨by omega, by omega⟩
  rwa [show pagesV z = (pagesOf z.Free, 0) by simp [pagesV, hqB]] at this
 obtain ⟨hd, hhd⟩ : ∃ hd, heldV m0 m1 s zi f = hd := ⟨_, rfl⟩
 have o1 := hv.may1.ok
 obtain ⟨a1, a2, a3, a4, a5⟩ := o1
 have cH : ∀ w', Ext w w' → Ans Tryd.prog 125 [.agg (encH (k.h p)).toArray, .int .i64 (zi : Int), .int .i64 f] w' fun v _ => v = .int .i64 hd := fun w' hx => by
  have := hpages.held_ans (k.h p) p.u0 p.u1 s k.M m0 m1 zi f w' (H0.mins.ext hx).sl (H0.zs.row.ext hx).sl hM H0.zs.z1.from_ H0.zs.z1.to_ ⟨by omega, by omega⟩ ⟨by omega, by omega⟩ hzi hf
  rwa [hhd] at this
 have hhb : 0 ≤ hd ∧ hd ≤ 512 := by
  rw [← hhd]
  have h1 := hM.b0
  have h2 := hM.b1
  unfold heldV
  (repeat' split) <;> omega
 have hzl := zone_len hzm
 have hpb := pagesOf_bound hzm z.Free.length (Nat.le_refl _)
 rw [List.take_length] at hpb
 have hpw := pw_le ho.1 ho.2
 by_cases he : hd ≤ pagesOf z.Free - pw o
 ·have hE : enoughP m0 m1 s zi o f := by unfold enoughP; rw [hhd, hz]; exact he
  repeat' (first | (show CW _ _ _ _ _ _; first | refine CW.seq ?_ | refine CW.region ?_ | refine CW.condd_f rfl (by omega) ?_ | refine CW.skip ?_ | (apply CW.quiet1 mixed; (· kernel_rfl); rotate_left; intro w1 hw1; replace hw := Ext.trans hw hw1; replace H := H.ext hw1; replace hoz := hoz.ext hw1; clear hw1; rotate_right)) | (show Post _ _ _ _ _; refine Post.seq ?_) | refine SW.nil ?_ | refine SW.pure rfl rfl ?_ | (show SW _ _ _ _ (⟨_, Op.fieldAddr _ _ _, _, _, _, none⟩ :: _) _ _; refine SW.st (st_field rfl) rfl ?_) | (show SW _ _ _ _ (⟨_, Op.nilCheck _, _, _, _, none⟩ :: _) _ _; refine SW.st (st_nilCheck rfl) rfl ?_) | (show SW _ _ _ _ (⟨_, Op.binOp _ _ _ _ _, _, _, _, none⟩ :: _) _ _; refine SW.st (st_sub rfl rfl (by omega) (by omega)) rfl ?_) | (show SW _ _ _ _ (⟨_, Op.indexAddr _ _ _, _, _, _, none⟩ :: _) _ _; refine SW.st (st_indexN rfl rfl (by assumption) (by omega)) rfl ?_) | (show SW _ _ _ _ (⟨_, Op.load _ _, _, _, _, none⟩ :: _) _ _; first | refine SW.st (st_load rfl (H.blk.cell (i := 0) (v := .slice (some ⟨k.g, 0, none⟩) 2 k.c) rfl)) rfl ?_ | refine SW.st (st_loads rfl rfl fz) rfl ?_ | refine SW.st (st_loadsx hw rfl rfl fz) rfl ?_ | refine SW.st (st_loads rfl rfl ((fun _ _ => H.blk.cell))) rfl ?_) | (show SW _ _ _ _ (⟨_, Op.call ⟨.value (.func _), _, _⟩, _, _, _, none⟩ :: _) _ _; first | (refine SW.call rfl rfl (cP _ hw) ?_; intro v w1 hw1 hv; subst hv; replace hw := Ext.trans hw hw1; replace H := H.ext hw1; replace hoz := hoz.ext hw1; clear hw1) | refine SW.qcall rfl rfl (fun w1 hw1 => (cH _ (Ext.trans hw hw1))) ?_) | (refine SW.st (st_shl (r := pw o) rfl rfl (by omega) (by omega) (by simp [pw]) (by omega) (by omega)) rfl ?_) | exact SW.qnil rfl)
  refine SW.call rfl rfl (Take_ans uz z o t _ hoz.rd q1 q2 ⟨by omega, by omega⟩ ⟨by omega, by omega⟩ (hO.ext hw)) fun v w4 hXX hv => ?_
  obtain ⟨u, hT, r', rfl, hOz⟩ := hv
  replace hOz := hOz.low hw.size
  (replace hw := Ext.trans hw hXX; replace H := H.ext hXX)
  repeat' (refine SW.pure rfl rfl ?_)
  refine SW.alloc rfl fun b14 w1 hw1 hb14b hb14 => ?_
  skip
  refine SW.storeAgg hb14 rfl rfl rfl rfl (one_z r') fun w2 hb14' hg => ?_
  have hXX := hw1.own hb14b hg
  have hb14w : w.heap.size ≤ b14 := Nat.le_trans hw.size hb14b
  replace hw := Ext.trans hw hXX
  replace H := H.ext hXX
  replace hOz := hOz.ext hXX
  replace hb14 := hb14'
  clear hb14' hw1 hg hXX
  rw [← hz] at hT
  by_cases hu : u.2.2 = 0
  ·repeat' (first | (show CW _ _ _ _ _ _; first | refine CW.seq ?_ | refine CW.region ?_ | refine CW.condn_f rfl (by omega) ?_ | refine CW.skip ?_) | (show Post _ _ _ _ _; refine Post.seq ?_) | refine SW.nil ?_ | refine SW.pure rfl rfl ?_)
   refine CW.anyF 7 7 (fun _ => True) mixed (by kernel_rfl) fun w1 hw1 hRB => ?_
   replace hw := Ext.trans hw hw1; replace H := H.ext hw1; replace hOz := hOz.ext hw1; replace hb14 := hb14.ext hw1; clear hw1
   refine SF.take 0 [] [] hRB rfl (by kernel_rfl) (by kernel_rfl) (by kernel_rfl) ?_
   repeat (refine SW.pure rfl rfl ?_)
   refine SW.tknil ?_
   refine SF.take 1 [] [] hRB rfl (by kernel_rfl) (by kernel_rfl) (by kernel_rfl) ?_
   repeat ((show SW _ _ _ _ (⟨_, Op.nilCheck _, _, _, _, none⟩ :: _) _ _; refine SW.st (st_nilCheck rfl) rfl ?_))
   refine SW.tknil ?_
   refine SF.take 2 [] [] hRB rfl (by kernel_rfl) (by kernel_rfl) (by kernel_rfl) ?_
   repeat ((show SW _ _ _ _ (⟨_, Op.fieldAddr _ _ _, _, _, _, none⟩ :: _) _ _; refine SW.st (st_field rfl) rfl ?_))
   refine SW.tknil ?_
   refine SF.take 3 [] [] hRB rfl (by kernel_rfl) (by kernel_rfl) (by kernel_rfl) ?_
   repeat ((show SW _ _ _ _ (⟨_, Op.load _ _, _, _, _, none⟩ :: _) _ _; refine SW.st (st_load rfl (H.blk.cell (i := 0) (v := .slice (some ⟨k.g, 0, none⟩) 2 k.c) rfl)) rfl ?_))
   refine SW.tknil ?_
   refine SF.take 4 [] [] hRB rfl (by kernel_rfl) (by kernel_rfl) (by kernel_rfl) ?_
   repeat (refine SW.pure rfl rfl ?_)
   refine SW.tknil ?_
   refine SF.take 5 [] [] hRB rfl (by kernel_rfl) (by kernel_rfl) (by kernel_rfl) ?_
   repeat ((show SW _ _ _ _ (⟨_, Op.load _ _, _, _, _, none⟩ :: _) _ _; refine SW.st (st_loads rfl rfl ((fun _ _ => hb14.cell))) rfl ?_))
   refine SW.tknil ?_
   refine SF.take 6 [] [] hRB rfl (by kernel_rfl) (by kernel_rfl) (by kernel_rfl) ?_
   repeat ((show SW _ _ _ _ (⟨_, Op.indexAddr _ _ _, _, _, _, none⟩ :: _) _ _; refine SW.st (st_indexN rfl rfl (by assumption) (by omega)) rfl ?_))
   refine SW.tknil ?_
   refine SF.last rfl (by kernel_rfl) (by kernel_rfl) ?_
   refine SW.storeElem (enc := encZ) zi r' H.zs.row rfl rfl hzi fun w5 hO5 hg => ?_
   rw [H.zs.own] at hg
   have H5 := HS.setZ H0 H hzi hO5 hg hOz
   have hK : KpH w k p w5 (putU p zi r') := ((KpH.refl w k p).ext hw).step hg (fun i e => by cases e; exact .inl (.inr (.inl rfl))) (fun i e => .inl (mine_putU.1 e))
   repeat' (first | (show CW _ _ _ _ _ _; first | refine CW.seq ?_ | refine CW.region ?_ | refine CW.ret ?_) | (show Post _ _ _ _ _; first | refine Post.seq ?_ | refine Post.np ?_) | refine SW.nil ?_ | refine SW.pure rfl rfl ?_)
   exact Post.ret2 rfl rfl rfl ⟨_, rfl, _, .ok hE hT hu, rfl, _, H5, hK⟩
  ·repeat' (first | (show CW _ _ _ _ _ _; first | refine CW.seq ?_ | refine CW.region ?_ | refine CW.condn_t rfl (by omega) ?_ | refine CW.ret ?_) | (show Post _ _ _ _ _; first | refine Post.seq ?_ | refine Post.seq_ret ?_) | refine SW.nil ?_ | refine SW.pure rfl rfl ?_)
   exact Post.ret2 rfl rfl rfl ⟨_, rfl, _, .none hE hT hu, rfl, _, H, (KpH.refl w k p).ext hw⟩
 ·have hE : ¬ enoughP m0 m1 s zi o f := by unfold enoughP; rw [hhd, hz]; exact he
  repeat' (first | (show CW _ _ _ _ _ _; first | refine CW.seq ?_ | refine CW.region ?_ | refine CW.condd_t rfl (by omega) ?_ | refine CW.ret ?_ | (apply CW.quiet1 mixed; (· kernel_rfl); rotate_left; intro w1 hw1; replace hw := Ext.trans hw hw1; replace H := H.ext hw1; replace hoz := hoz.ext hw1; clear hw1; rotate_right)) | (show Post _ _ _ _ _; first | refine Post.seq ?_ | refine Post.seq_ret ?_) | refine SW.nil ?_ | refine SW.pure rfl rfl ?_ | (show SW _ _ _ _ (⟨_, Op.fieldAddr _ _ _, _, _, _, none⟩ :: _) _ _; refine SW.st (st_field rfl) rfl ?_) | (show SW _ _ _ _ (⟨_, Op.nilCheck _, _, _, _, none⟩ :: _) _ _; refine SW.st (st_nilCheck rfl) rfl ?_) | (show SW _ _ _ _ (⟨_, Op.binOp _ _ _ _ _, _, _, _, none⟩ :: _) _ _; refine SW.st (st_sub rfl rfl (by omega) (by omega)) rfl ?_) | (show SW _ _ _ _ (⟨_, Op.indexAddr _ _ _, _, _, _, none⟩ :: _) _ _; refine SW.st (st_indexN rfl rfl (by assumption) (by omega)) rfl ?_) | (show SW _ _ _ _ (⟨_, Op.load _ _, _, _, _, none⟩ :: _) _ _; first | refine SW.st (st_load rfl (H.blk.cell (i := 0) (v := .slice (some ⟨k.g, 0, none⟩) 2 k.c) rfl)) rfl ?_ | refine SW.st (st_loads rfl rfl fz) rfl ?_ | refine SW.st (st_loads rfl rfl ((fun _ _ => H.blk.cell))) rfl ?_) | (show SW _ _ _ _ (⟨_, Op.call ⟨.value (.func _), _, _⟩, _, _, _, none⟩ :: _) _ _; first | (refine SW.call rfl rfl (cP _ hw) ?_; intro v w1 hw1 hv; subst hv; replace hw := Ext.trans hw hw1; replace H := H.ext hw1; replace hoz := hoz.ext hw1; clear hw1) | refine SW.qcall rfl rfl (fun w1 hw1 => (cH _ (Ext.trans hw hw1))) ?_) | (refine SW.st (st_shl (r := pw o) rfl rfl (by omega) (by omega) (by simp [pw]) (by omega) (by omega)) rfl ?_) | exact SW.qnil rfl)
  exact Post.ret2 rfl rfl rfl ⟨_, rfl, _, .poor hE, rfl, _, H, (KpH.refl w k p).ext hw⟩
end Go.Proofs.YtfommgdbahemfaaDoor
set_option linter.unusedVariables false
namespace Go.Proofs.YtfommgdbahemfaaDoor
theorem ins_sorted {L : List PList} {y : PList} (hs : LsS L) (hk : khere L y = false) : LsS (insAt L (kpos L y) y) := by
 have h0 := hs
 unfold LsS at h0 ⊢
 rw [← List.take_append_drop (kpos L y) L, List.pairwise_append] at h0
 obtain ⟨h1, h2, h3⟩ := h0
 have hT : ∀ z ∈ L.take (kpos L y), aheadL z y := fun z hz => by
  obtain ⟨j, hj, rfl⟩ := List.getElem_of_mem hz
  rw [List.length_take] at hj
  rw [List.getElem_take]
  exact kpos_below (by omega)
 have hD : ∀ z ∈ L.drop (kpos L y), aheadL y z := fun z hz => by
  obtain ⟨j, hj, rfl⟩ := List.getElem_of_mem hz
  rw [List.length_drop] at hj
  rw [List.getElem_drop]
  have h := khere_f hk (by omega)
  rcases Nat.eq_zero_or_pos j with rfl | hj0
  ·exact h
  ·exact ahead_trans h (hs.get (show kpos L y + j < L.length by omega) (by omega))
 unfold insAt
 rw [List.append_assoc, List.pairwise_append]
 refine ⟨h1, ?_, fun a ha b hb => ?_⟩
 ·rw [List.singleton_append, List.pairwise_cons]
  exact ⟨hD, h2⟩
 ·rw [List.singleton_append, List.mem_cons] at hb
  rcases hb with rfl | hb
  ·exact hT a ha
  ·exact h3 a ha b hb
section
variable {L : List PList} {x : PList} {pg : List Int}
theorem withPg_key : keyEq x (withPg x pg) := ⟨rfl, rfl, rfl⟩
theorem moreL_nil : moreL L x [] = L := by simp [moreL]
theorem moreL_ins (hk : khere L x = false) (hp : pg ≠ []) : moreL L x pg = insAt L (kpos L (withPg x pg)) (withPg x pg) := by
 rw [moreL, if_neg hp, setL_f (by rw [← (kpos_key (L := L) (withPg_key (x := x) (pg := pg))).2]; exact hk)]
theorem moreL_sorted (hs : LsS L) (hk : khere L x = false) : LsS (moreL L x pg) := by
 by_cases hp : pg = []
 ·subst hp; rw [moreL_nil]; exact hs
 ·rw [moreL_ins hk hp]
  exact ins_sorted hs (by rw [← (kpos_key (L := L) (withPg_key (x := x) (pg := pg))).2]; exact hk)
theorem moreL_mem (hk : khere L x = false) : ∀ l ∈ moreL L x pg, l ∈ L ∨ l = withPg x pg := fun l hl => by
 by_cases hp : pg = []
 ·subst hp; rw [moreL_nil] at hl; exact .inl hl
 ·rw [moreL_ins hk hp] at hl
  unfold insAt at hl
  rw [List.mem_append, List.mem_append, List.mem_singleton] at hl
  rcases hl with (hl | hl) | hl
  ·exact .inl (List.mem_of_mem_take hl)
  ·exact .inr hl
  ·exact .inl (List.mem_of_mem_drop hl)
theorem moreL_len (hk : khere L x = false) : (moreL L x pg).length ≤ L.length + 1 := by
 by_cases hp : pg = []
 ·subst hp; rw [moreL_nil]; omega
 ·rw [moreL_ins hk hp, length_insAt _ (kpos_le _ _)]; omega
theorem moreL_push (hk : khere L x = false) (a : Int) : setL (moreL L x pg) ⟨x.Cpu, x.Zone, x.Ty, pagesAt (moreL L x pg) x ++ [a]⟩ = moreL L x (pg ++ [a]) := by
 have hne : pg ++ [a] ≠ [] := by simp
 by_cases hp : pg = []
 ·subst hp
  rw [moreL_nil, pagesAt_f hk, moreL, if_neg hne]; rfl
 ·have e : moreL L x pg = setL L (withPg x pg) := by rw [moreL, if_neg hp]
  obtain ⟨e1, e2⟩ := kpos_key (L := setL L (withPg x pg)) (withPg_key (x := x) (pg := pg))
  obtain ⟨e3, e4⟩ := setL_pos (L := L) (x := withPg x pg)
  obtain ⟨hlt, hget⟩ := List.getElem?_eq_some_iff.1 (setL_get (L := L) (x := withPg x pg))
  have epg : pagesAt (setL L (withPg x pg)) x = pg := by
   rw [pagesAt_t (by rw [e2]; exact e4) (by rw [e1, e3]; exact hlt)]
   simp only [e1, e3, hget]
   rfl
  rw [e, epg, moreL, if_neg hne]
  have hkey : keyEq (withPg x pg) (⟨x.Cpu, x.Zone, x.Ty, pg ++ [a]⟩ : PList) := ⟨rfl, rfl, rfl⟩
  obtain ⟨e5, e6⟩ := kpos_key (L := setL L (withPg x pg)) hkey
  rw [setL_t (by rw [← e6]; exact e4), ← e5, e3]
  exact setL_set hkey
end
theorem popL_set {x : PList} {L : List PList} {pg : List Int} (h : 1 < pg.length) : popL L x pg = L.set (kpos L x) (withPg x pg.dropLast) := by rw [popL, if_neg (by omega)]
theorem popL_erase {x : PList} {L : List PList} {pg : List Int} (h : pg.length = 1) : popL L x pg = L.eraseIdx (kpos L x) := by rw [popL, if_pos (by omega)]
theorem getLast_at {l : List Int} (h : l ≠ []) {i : Nat} (hi : i < l.length) (e : i = l.length - 1) : l.getLast h = l[i] := by
 subst e
 rw [List.getLast_eq_getElem]
end Go.Proofs.YtfommgdbahemfaaDoor
set_option linter.unusedVariables false
namespace Go.Proofs.YtfommgdbahemfaaDoor
open Go.RowKit
set_option maxHeartbeats 4000000 in
theorem DeleteLRow_ans (A : Option Addr) (n c lo : Nat) (l : List LRow) (w : World) (hO : Own w lo 84 4 encL A n c l) (i : Nat) (hi : i < n) (hn : n ≤ 1000000000000000000) (hlo : lo ≤ w.heap.size) :
  AnsX Tryd.prog 122 [.slice A n c, .int .i64 (i : Int), .int .i64 ((i + 1 : Nat) : Int)] w fun v w' => v = .slice A (n - 1) c ∧ Own w' lo 84 4 encL A (n - 1) c (l.eraseIdx i) ∧ w.grownBy w' (ownB A c) := by
 refine ansx_of Tryd.func122 rfl Tryd.ntmps122 rfl ?_
 have hle := hO.le
 have hll := hO.len
 have hA := hO.sl.base
 have hg0 : w.grownBy w (ownB A c) := World.grownBy.refl _ _
 repeat' (first | (show CW _ _ _ _ _ _; first | refine CW.seq ?_ | refine CW.region ?_ | refine CW.condd_f rfl (by omega) ?_ | refine CW.skip ?_) | (show Post _ _ _ _ _; refine Post.seq ?_) | refine SW.nil ?_ | refine SW.pure rfl rfl ?_ | (show SW _ _ _ _ (⟨_, Op.call ⟨.builtin .len, _, _⟩, _, _, _, none⟩ :: _) _ _; refine SW.st (st_len rfl) rfl ?_) | (refine SW.st (st_slice3 (i := i) (j := i + 1) (k := n) rfl rfl rfl rfl (by omega) (by omega) (by omega)) rfl ?_))
 all_goals first | (exfalso; omega) | skip
 have hw := Ext.refl w
 have e0 : i + (n - (i + 1)) = n - 1 := by omega
 have el : l.take i ++ l.drop (i + 1) = l.eraseIdx i := by rw [List.eraseIdx_eq_take_drop_succ]
 refine CW.any 6 mixed (rb_tail (by kernel_rfl)) rfl fun w1 hw1 hRB => ?_
 replace hw := Ext.trans hw hw1; replace hO := hO.ext hw1; clear hw1
 refine SA.take 0 hRB rfl (by kernel_rfl) (by kernel_rfl) rfl ?_
 repeat (refine SW.pure rfl rfl ?_)
 refine SW.tknil ?_
 refine SA.take 1 hRB rfl (by kernel_rfl) (by kernel_rfl) rfl ?_
 repeat (refine SW.pure rfl rfl ?_)
 refine SW.tknil ?_
 refine SA.take 2 hRB rfl (by kernel_rfl) (by kernel_rfl) rfl ?_
 repeat ((refine SW.st (st_sliceHi (k := i) rfl rfl (by omega)) rfl ?_))
 refine SW.tknil ?_
 refine SA.take 3 hRB rfl (by kernel_rfl) (by kernel_rfl) rfl ?_
 repeat (refine SW.pure rfl rfl ?_)
 refine SW.tknil ?_
 refine SA.take 4 hRB rfl (by kernel_rfl) (by kernel_rfl) rfl ?_
 repeat (refine SW.pure rfl rfl ?_)
 refine SW.tknil ?_
 refine SA.take 5 hRB rfl (by kernel_rfl) (by kernel_rfl) rfl ?_
 repeat ((refine SW.st (st_sliceLo (k := i + 1) rfl rfl (by omega) (by omega)) rfl ?_))
 refine SW.tknil ?_
 refine SA.done (by kernel_rfl) ?_
 refine SW.appendIn (hO.pre (i := i) (by omega)) (hO.sl.drop (i + 1) c (by omega) (by omega)) (by omega) rfl rfl rfl fun w2 hO2 hg => ?_
 rw [e0, el] at hO2
 rw [e0]
 have hG1 := (hw.gr (ownB A c))
 repeat' (first | (show CW _ _ _ _ _ _; first | refine CW.seq ?_ | refine CW.region ?_) | (show Post _ _ _ _ _; first | refine Post.seq ?_ | refine Post.np ?_) | refine SW.nil ?_ | refine SW.pure rfl rfl ?_ | (show SW _ _ _ _ (⟨_, Op.call ⟨.builtin .len, _, _⟩, _, _, _, none⟩ :: _) _ _; refine SW.st (st_len rfl) rfl ?_) | (refine SW.st (st_sliceLH (i := n - 1) (j := n) rfl rfl rfl (by omega) (by omega)) rfl ?_))
 obtain ⟨g, rest, rfl, h1, h2, h3, h4, h5, h6⟩ := hO2.opened (by omega)
 have hfl : ((l.eraseIdx i).flatMap encL).length = (n - 1) * 4 := by rw [length_flatMap_enc, hO2.len]
 refine SW.clear ((n - 1) * 4) h2 rfl (by rw [List.length_append, hfl]; omega) (fun h0 => ?_) (by decide) fun w3 cs hcs hB hg3 => ?_
 ·rw [if_neg (by omega)]; simp [addr_of]
 ·have e7 := lay_mid ((l.eraseIdx i).flatMap encL) (rest.take ((n - (n - 1)) * 4)) (rest.drop ((n - (n - 1)) * 4)) cs (by rw [hcs]; simp; omega) (o := (n - 1) * 4) hfl.symm
  rw [List.append_assoc (List.flatMap _ _), List.take_append_drop] at e7
  rw [e7, List.append_assoc] at hB
  have hO3 := Own.closed (l := l.eraseIdx i) hO2.len hB (by rw [List.length_append, hcs]; simp; omega) h4 (by omega) h5 h1
  rw [← h6] at hg3
  have hgg := grown_trans (grown_trans hG1 hg (.inl rfl)) hg3 (.inl rfl)
  repeat' (first | (show CW _ _ _ _ _ _; first | refine CW.seq ?_ | refine CW.region ?_ | refine CW.ret ?_) | (show Post _ _ _ _ _; refine Post.seq ?_) | refine SW.nil ?_ | refine SW.pure rfl rfl ?_)
  exact Post.ret1 rfl rfl ⟨_, rfl, rfl, hO3, hgg⟩
end Go.Proofs.YtfommgdbahemfaaDoor
set_option linter.unusedVariables false
set_option linter.unusedSimpArgs false
namespace Go.Proofs.YtfommgdbahemfaaDoor
open Go.RowKit
def trV : Option ((Zone × Zone) × List PList × Int) → Value
 | Option.none => .tuple #[.int .i64 0, .bool false]
 | some q => .tuple #[.int .i64 q.2.2, .bool true]
def trS (s : Zone × Zone) : Option ((Zone × Zone) × List PList × Int) → Zone × Zone
 | Option.none => s
 | some q => q.1
def trL (L : List PList) : Option ((Zone × Zone) × List PList × Int) → List PList
 | Option.none => L
 | some q => q.2.1
theorem mine_set {k : HK} {p : HP} {i j : Nat} {y : LRow} (hi : i < p.ls.length) (ho : ob y.Pages = ob p.ls[i].Pages) (h : Mine k ⟨p.u0, p.u1, p.li, p.ls.set i y⟩ j) : Mine k p j := by
 rcases h with h | h | h | ⟨z, hz, h⟩
 ·exact .inl h
 ·exact .inr (.inl h)
 ·exact .inr (.inr (.inl h))
 ·rcases List.mem_or_eq_of_mem_set hz with h1 | rfl
  ·exact .inr (.inr (.inr ⟨z, h1, h⟩))
  ·exact .inr (.inr (.inr ⟨_, List.getElem_mem hi, ho ▸ h⟩))
theorem mine_cut {k : HK} {p : HP} {i j : Nat} (h : Mine k ⟨p.u0, p.u1, ⟨p.li.A, p.li.n - 1, p.li.c⟩, p.ls.eraseIdx i⟩ j) : Mine k p j := by
 rcases h with h | h | h | ⟨z, hz, h⟩
 ·exact .inl h
 ·exact .inr (.inl h)
 ·exact .inr (.inr (.inl h))
 ·exact .inr (.inr (.inr ⟨z, List.mem_of_mem_eraseIdx hz, h⟩))
set_option maxHeartbeats 4000000 in
theorem single_ans (k : HK) (p : HP) (s : Zone × Zone) (L : List PList) (m0 m1 cpu : Int) (zi : Nat) (t f : Int) (wb w : World) (H : HS wb w k p s L) (hO : OthW wb) (hM : MinOk k.M m0 m1) (hv : VS s) (hs : LsS L) (hpg : ∀ l ∈ L, 1 ≤ l.Pages.length ∧ l.Pages.length ≤ 8) (hcnt : L.length ≤ 256) (hzi : zi < 2) (hf : 0 ≤ f ∧ f ≤ 15) :
  AnsX Tryd.prog 90 [.pointer (some ⟨k.b, 0, none⟩), .int .i64 cpu, .int .i64 (zi : Int), .int .i64 t, .int .i64 f] w fun v w' => ∃ q, TryR m0 m1 cpu zi 0 t f s L q ∧ v = trV q ∧ ∃ p', HS wb w' k p' (trS s q) (trL L q) ∧ KpH w k p w' p' := by
 refine ansx_of Tryd.func90 rfl Tryd.ntmps90 rfl ?_
 have hw := Ext.refl w
 repeat' (first | (show CW _ _ _ _ _ _; first | refine CW.seq ?_ | refine CW.region ?_) | (show Post _ _ _ _ _; refine Post.seq ?_) | refine SW.nil ?_ | refine SW.pure rfl rfl ?_ | (show SW _ _ _ _ (⟨_, Op.build _ _, _, _, _, none⟩ :: _) _ _; refine SW.st (st_build rfl rfl) rfl ?_))
 have hn12 : ∀ i, w.heap.size ≤ i → ¬ Mine k p i := fun i hi => H.not hi
 have K0 := KpH.refl w k p
 refine SW.alloc rfl fun b12 w1 hw1 hb12b hb12 => ?_
 skip
 refine SW.storeAgg hb12 rfl rfl rfl rfl (one_l ⟨cpu, zi, t, .nil⟩) fun w2 hb12' hg => ?_
 have hXX := hw1.own hb12b hg
 have hb12w : w.heap.size ≤ b12 := Nat.le_trans hw.size hb12b
 replace hw := Ext.trans hw hXX
 replace H := H.ext hXX
 replace K0 := K0.ext hXX
 replace hb12 := hb12'
 clear hb12' hw1 hg hXX
 obtain ⟨x, hx⟩ : ∃ x : PList, x = ⟨cpu, zi, t, []⟩ := ⟨_, rfl⟩
 have hxk : rowKey ⟨cpu, zi, t, .nil⟩ x := by subst hx; exact ⟨rfl, rfl, rfl⟩
 have hxn : x.Pages = [] := by subst hx; rfl
 obtain ⟨l1, l2⟩ := H.ls.rd.len
 have hA := H.ls.row.sl.base
 obtain ⟨q, hq⟩ : ∃ q, khere L x = q := ⟨_, rfl⟩
 obtain ⟨kp, hkp⟩ : ∃ kp, kpos L x = kp := ⟨_, rfl⟩
 have cL : ∀ w', RdLs w' p.li p.ls L → Ans Tryd.prog 121 [.agg (encH (k.h p)).toArray, .agg (encL ⟨cpu, zi, t, .nil⟩).toArray] w' fun v _ => v = .tuple #[.int .i64 (kp : Int), .bool q] := fun w' h => by
  have := plist_ans (k.h p) L p.ls x ⟨cpu, zi, t, .nil⟩ w' h hxk (by simp only; omega)
  rwa [hq, hkp] at this
 cases q
 ·repeat' (first | (show CW _ _ _ _ _ _; refine CW.seq ?_) | (show Post _ _ _ _ _; refine Post.seq ?_) | refine SW.nil ?_)
  (apply CW.quiet1 mixed; (· kernel_rfl); rotate_left; intro w1 hw1; replace hw := Ext.trans hw hw1; replace H := H.ext hw1; replace hb12 := hb12.ext hw1; replace K0 := K0.ext hw1; clear hw1; rotate_right)
  repeat' (first | (show CW _ _ _ _ _ _; first | refine CW.seq ?_ | refine CW.region ?_ | refine CW.condf rfl ?_ | refine CW.skip ?_) | (show Post _ _ _ _ _; refine Post.seq ?_) | refine SW.nil ?_ | refine SW.pure rfl rfl ?_ | (show SW _ _ _ _ (⟨_, Op.nilCheck _, _, _, _, none⟩ :: _) _ _; refine SW.st (st_nilCheck rfl) rfl ?_) | (show SW _ _ _ _ (⟨_, Op.load _ _, _, _, _, none⟩ :: _) _ _; first | refine SW.st (st_loads rfl rfl ((fun _ _ => H.blk.cell))) rfl ?_ | refine SW.st (st_loads rfl rfl ((fun _ _ => hb12.cell))) rfl ?_) | (show SW _ _ _ _ (⟨_, Op.call ⟨.value (.func _), _, _⟩, _, _, _, none⟩ :: _) _ _; refine SW.qcall rfl rfl (fun w1 hw1 => (cL _ (H.ls.rd.ext hw1))) ?_) | exact SW.qnil rfl)
  clear cL
  skip
  refine SW.callX rfl rfl (take_ans k p s L m0 m1 zi 0 t f wb _ H (hO.ext H.base) hM hv hzi (by decide) hf) fun v w5 hv5 => ?_
  obtain ⟨q5, hT, rfl, p5, H5, K5⟩ := hv5
  have hn5 := K5.not (hn12 b12 hb12w) hb12.lt
  replace hb12 := K5.blk hb12 (hn12 b12 hb12w)
  replace K5 := K0.trans K5
  clear K0 H hw hn12
  have hw := Ext.refl w5
  have hno : ¬ ((0 : Int) = 0 ∧ khere L ⟨cpu, (zi : Int), t, []⟩ = true) := fun h => by
   have := h.2
   rw [← hx, hq] at this
   cases this
  have hke : khere L ⟨cpu, (zi : Int), t, []⟩ = false := by rw [← hx]; exact hq
  have hvq := hT.vs hv
  cases q5 with
  | none =>
   have hTry : TryR m0 m1 cpu zi 0 t f s L none := by
    cases hT with
    | poor he => exact .poor hno he
    | none he ht hu => exact .none hno he ht hu
   repeat' (first | (show CW _ _ _ _ _ _; first | refine CW.seq ?_ | refine CW.region ?_ | refine CW.block ?_) | (show Post _ _ _ _ _; refine Post.seq ?_) | refine SW.nil ?_ | refine SW.pure rfl rfl ?_)
   refine CW.loop (fun _ : Unit => [(17, .int .i64 0), (18, .bool false), (19, .int .i64 1)]) (fun _ w' => w' = w5) (fun _ => 0) () ⟨rfl, rfl, rfl, trivial⟩ rfl ?_
   rintro _ w' rfl
   repeat' (first | (show CW _ _ _ _ _ _; first | refine CW.seq ?_ | refine CW.region ?_ | refine CW.condfr rfl (by with_reducible rfl) ?_ | refine CW.ret ?_ | refine CW.exit ?_) | (show Post _ _ _ _ _; first | refine Post.seq ?_ | refine Post.seq_exit ?_ | refine Post.hit ?_ | refine Post.again_exit ?_) | refine SW.nil ?_ | (show SW _ _ _ _ (⟨_, _, _, _, _, some _⟩ :: _) _ _; refine SW.skip_t rfl rfl (by with_reducible rfl) rfl ?_) | refine SW.pure rfl rfl ?_)
   exact Post.ret2 rfl rfl rfl ⟨_, rfl, _, hTry, rfl, p5, H5, K5⟩
  | some q5 =>
   obtain ⟨s1, a⟩ := q5
   have hFill : ∀ r, FillR m0 m1 zi t f s1 [] r → TryR m0 m1 cpu zi 0 t f s L (some (r.1, moreL L x r.2, a)) := fun r hr => by
    rw [hx]
    cases hT with
    | ok he ht hu => exact .fill rfl hke he ht hu hr
   simp only [tkS] at H5 hvq
   have H5' : HS wb w5 k p5 s1 (moreL L x []) := by rw [moreL_nil]; exact H5
   clear H5
   repeat' (first | (show CW _ _ _ _ _ _; first | refine CW.seq ?_ | refine CW.region ?_ | refine CW.block ?_) | (show Post _ _ _ _ _; refine Post.seq ?_) | refine SW.nil ?_ | refine SW.pure rfl rfl ?_)
   refine CW.loop (fun u : HP × (Zone × Zone) × List Int => [(0, .pointer (some ⟨k.b, 0, none⟩)), (2, .int .i64 (zi : Int)), (3, .int .i64 t), (4, .int .i64 f), (12, .pointer (some ⟨b12, 0, none⟩)), (17, .int .i64 a), (18, .bool true), (19, .int .i64 ((u.2.2.length + 1 : Nat) : Int))])
    (fun u w' => u.2.2.length ≤ 3 ∧ HS wb w' k u.1 u.2.1 (moreL L x u.2.2) ∧ VS u.2.1 ∧ Blk w' b12 84 (encL ⟨cpu, zi, t, .nil⟩) ∧ ¬ Mine k u.1 b12 ∧ KpH w k p w' u.1 ∧ ∀ r, FillR m0 m1 zi t f u.2.1 u.2.2 r → FillR m0 m1 zi t f s1 [] r) (fun u => 3 - u.2.2.length) (p5, s1, [])
    ⟨rfl, rfl, rfl, rfl, rfl, rfl, rfl, rfl, trivial⟩ ⟨by simp, H5', hvq, hb12, hn5, K5, fun r h => h⟩ ?_
   clear hw hb12 K5 hn5 H5' hvq hT
   rintro ⟨p6, s6, pg⟩ w' ⟨hl3, H, hv6, hb12, hn12, K0, hcont⟩
   simp only at hl3 H hv6 hn12 K0 hcont ⊢
   have hw := Ext.refl w'
   by_cases hlt : pg.length < 3
   ·repeat' (first | (show CW _ _ _ _ _ _; first | refine CW.seq ?_ | refine CW.region ?_ | refine CW.block ?_ | refine CW.condd_t rfl (by omega) ?_ | refine CW.skip ?_) | (show Post _ _ _ _ _; refine Post.seq ?_) | refine SW.nil ?_ | (show SW _ _ _ _ (⟨_, _, _, _, _, some _⟩ :: _) _ _; refine SW.want_t rfl rfl (by with_reducible rfl) ?_) | refine SW.pure rfl rfl ?_)
    refine SW.callX rfl rfl (take_ans k p6 s6 (moreL L x pg) m0 m1 zi 0 t f wb _ H (hO.ext H.base) hM hv6 hzi (by decide) hf) fun v w5 hv5 => ?_
    obtain ⟨q5, hT, rfl, p5, H5, K5⟩ := hv5
    have hn5 := K5.not hn12 hb12.lt
    replace hb12 := K5.blk hb12 hn12
    replace K5 := K0.trans K5
    clear K0 H hw hn12
    have hw := Ext.refl w5
    have hvq := hT.vs hv6
    cases q5 with
    | none =>
     have hTry : FillR m0 m1 zi t f s6 pg (s6, pg) := by
      cases hT with
      | poor he => exact .poor hlt he
      | none he ht hu => exact .none hlt he ht hu
     repeat' (first | (show CW _ _ _ _ _ _; first | refine CW.seq ?_ | refine CW.region ?_ | refine CW.condt rfl ?_ | refine CW.ret ?_ | refine CW.exit ?_) | (show Post _ _ _ _ _; first | refine Post.seq ?_ | refine Post.seq_exit ?_ | refine Post.hit ?_ | refine Post.pass rfl ?_ | refine Post.again_exit ?_) | refine SW.nil ?_ | refine SW.pure rfl rfl ?_)
     exact Post.ret2 rfl rfl rfl ⟨_, rfl, _, hFill _ (hcont _ hTry), rfl, p5, H5, K5⟩
    | some q5 =>
     obtain ⟨s7, b⟩ := q5
     simp only [tkS] at H5 hvq
     have hcont' : ∀ r, FillR m0 m1 zi t f s7 (pg ++ [b]) r → FillR m0 m1 zi t f s1 [] r := fun r hr => by
      cases hT with
      | ok he ht hu => exact hcont _ (.more hlt he ht hu hr)
     repeat' (first | (show CW _ _ _ _ _ _; first | refine CW.seq ?_ | refine CW.region ?_ | refine CW.condf rfl ?_ | refine CW.skip ?_) | (show Post _ _ _ _ _; refine Post.seq ?_) | refine SW.nil ?_ | refine SW.pure rfl rfl ?_)
     repeat' (first | refine SW.pure rfl rfl ?_ | (show SW _ _ _ _ (⟨_, Op.load _ _, _, _, _, none⟩ :: _) _ _; refine SW.st (st_loads rfl rfl ((fun _ _ => hb12.cell))) rfl ?_))
     obtain ⟨l3, l4⟩ := H5.ls.rd.len
     have hml := moreL_len (pg := pg) hq
     refine SW.callX rfl rfl (push3_ans k p5 s7 (moreL L x pg) x ⟨cpu, zi, t, .nil⟩ b wb _ H5 hxk rfl hxn (moreL_sorted hs hq) (by omega) (fun l hl => by
      rcases moreL_mem hq l hl with h | rfl
      ·have := hpg l h; omega
      ·simp only [withPg]; omega)) fun v w8 hv8 => ?_
     obtain ⟨p8, H8, K8⟩ := hv8
     have hn8 := K8.not hn5 hb12.lt
     replace hb12 := K8.blk hb12 hn5
     replace K8 := K5.trans K8
     rw [moreL_push hq] at H8
     clear hw
     have hw := Ext.refl w8
     repeat' (first | (show CW _ _ _ _ _ _; refine CW.region ?_) | (show Post _ _ _ _ _; first | refine Post.seq ?_ | refine Post.blk ?_) | refine SW.nil ?_ | refine SW.pure rfl rfl ?_ | (show SW _ _ _ _ (⟨_, Op.binOp _ _ _ _ _, _, _, _, none⟩ :: _) _ _; refine SW.st (st_add rfl rfl (by omega) (by omega)) rfl ?_))
     exact Post.again (p8, s7, pg ++ [b]) ⟨rfl, rfl, rfl, rfl, rfl, rfl, rfl, congrArg (fun z => some (Value.int .i64 z)) (by simp), trivial⟩ (by simp; omega) ⟨by simp; omega, H8, hvq, hb12, hn8, K8, hcont'⟩
   ·have hTry : FillR m0 m1 zi t f s6 pg (s6, pg) := .full (by omega)
    repeat' (first | (show CW _ _ _ _ _ _; first | refine CW.seq ?_ | refine CW.region ?_ | refine CW.condd_f rfl (by omega) ?_ | refine CW.ret ?_ | refine CW.exit ?_) | (show Post _ _ _ _ _; first | refine Post.seq ?_ | refine Post.seq_exit ?_ | refine Post.hit ?_ | refine Post.again_exit ?_) | refine SW.nil ?_ | (show SW _ _ _ _ (⟨_, _, _, _, _, some _⟩ :: _) _ _; refine SW.want_t rfl rfl (by with_reducible rfl) ?_) | refine SW.pure rfl rfl ?_)
    exact Post.ret2 rfl rfl rfl ⟨_, rfl, _, hFill _ (hcont _ hTry), rfl, p6, H, K0⟩
 ·repeat' (first | (show CW _ _ _ _ _ _; refine CW.seq ?_) | (show Post _ _ _ _ _; refine Post.seq ?_) | refine SW.nil ?_)
  (apply CW.quiet1 mixed; (· kernel_rfl); rotate_left; intro w1 hw1; replace hw := Ext.trans hw hw1; replace H := H.ext hw1; replace hb12 := hb12.ext hw1; replace K0 := K0.ext hw1; clear hw1; rotate_right)
  repeat' (first | (show CW _ _ _ _ _ _; first | refine CW.seq ?_ | refine CW.region ?_ | refine CW.condt rfl ?_) | (show Post _ _ _ _ _; refine Post.seq ?_) | refine SW.nil ?_ | refine SW.pure rfl rfl ?_ | (show SW _ _ _ _ (⟨_, Op.fieldAddr _ _ _, _, _, _, none⟩ :: _) _ _; refine SW.st (st_field rfl) rfl ?_) | (show SW _ _ _ _ (⟨_, Op.nilCheck _, _, _, _, none⟩ :: _) _ _; refine SW.st (st_nilCheck rfl) rfl ?_) | (show SW _ _ _ _ (⟨_, Op.load _ _, _, _, _, none⟩ :: _) _ _; first | refine SW.st (st_loads rfl rfl ((fun _ _ => H.blk.cell))) rfl ?_ | refine SW.st (st_loads rfl rfl ((fun _ _ => hb12.cell))) rfl ?_) | (show SW _ _ _ _ (⟨_, Op.call ⟨.value (.func _), _, _⟩, _, _, _, none⟩ :: _) _ _; refine SW.qcall rfl rfl (fun w1 hw1 => (cL _ (H.ls.rd.ext hw1))) ?_) | exact SW.qnil rfl)
  clear cL
  obtain ⟨hkl, hkey⟩ := khere_t hq
  simp only [hkp] at hkl hkey
  have hkn : kp < p.li.n := by omega
  have hks : kp < p.ls.length := by omega
  have P0 := H.ls.each.get kp hks hkl
  have h18 := hpg _ (List.getElem_mem hkl)
  obtain ⟨y, hy⟩ : ∃ y, p.ls[kp]'hks = y := ⟨_, rfl⟩
  obtain ⟨pgs, hpgs⟩ : ∃ pgs, L[kp].Pages = pgs := ⟨_, rfl⟩
  rw [hy] at P0
  have hP := P0.pages
  have pc := P0.cpu
  have pz := P0.zone
  have pt := P0.ty
  rw [hpgs] at hP h18
  clear P0
  have hpl := hP.len
  have hA0 := hP.sl.base
  have hlast : y.Pages.n - 1 < y.Pages.n := by omega
  have hpne : pagesAt L ⟨cpu, (zi : Int), t, []⟩ = pgs := by
   rw [← hx, pagesAt_t hq (by omega)]
   simp only [hkp, hpgs]
  have hpx : pagesAt L x = pgs := by rw [hx]; exact hpne
  have hPle := hP.le
  have e3 : (encL (p.ls[kp]'hks))[3]? = some (Value.slice y.Pages.A y.Pages.n y.Pages.c) := by rw [hy]; rfl
  have hpn : pgs ≠ [] := fun e => by rw [e] at h18; simp at h18
  have hgl := getLast_at hpn (i := y.Pages.n - 1) (by omega) (by omega)
  obtain ⟨a, ha⟩ : ∃ a, pgs.getLast hpn = a := ⟨_, rfl⟩
  rw [ha] at hgl
  have hTry : TryR m0 m1 cpu zi 0 t f s L (some (s, popL L x pgs, a)) := by
   have := TryR.list (m0 := m0) (m1 := m1) (fl := f) (s := s) (o := 0) rfl (show khere L ⟨cpu, (zi : Int), t, []⟩ = true by rw [← hx]; exact hq) (by rw [hpne]; exact hpn)
   simp only [← hx, hpx, ha] at this
   exact this
  repeat' (first | (show CW _ _ _ _ _ _; first | refine CW.seq ?_ | refine CW.region ?_) | (show Post _ _ _ _ _; refine Post.seq ?_) | refine SW.nil ?_ | refine SW.pure rfl rfl ?_ | (show SW _ _ _ _ (⟨_, Op.fieldAddr _ _ _, _, _, _, none⟩ :: _) _ _; refine SW.st (st_field rfl) rfl ?_) | (show SW _ _ _ _ (⟨_, Op.nilCheck _, _, _, _, none⟩ :: _) _ _; refine SW.st (st_nilCheck rfl) rfl ?_) | (show SW _ _ _ _ (⟨_, Op.binOp _ _ _ _ _, _, _, _, none⟩ :: _) _ _; refine SW.st (st_sub rfl rfl (by omega) (by omega)) rfl ?_) | (show SW _ _ _ _ (⟨_, Op.indexAddr _ _ _, _, _, _, none⟩ :: _) _ _; first | refine SW.st (st_indexN rfl rfl (by assumption) (by omega)) rfl ?_ | refine SW.st (st_indexI (y.Pages.n - 1) rfl rfl (by assumption) (by omega) (by omega)) rfl ?_) | (show SW _ _ _ _ (⟨_, Op.call ⟨.builtin .len, _, _⟩, _, _, _, none⟩ :: _) _ _; refine SW.st (st_len rfl) rfl ?_) | (show SW _ _ _ _ (⟨_, Op.load _ _, _, _, _, none⟩ :: _) _ _; first | refine SW.st (st_load rfl (H.blk.cell (i := 3) (v := .slice p.li.A p.li.n p.li.c) rfl)) rfl ?_ | refine SW.st (st_load rfl (H.ls.row.sl.fld hkn (j := 3) e3)) rfl ?_ | refine SW.st (st_load rfl (hP.sl.one hlast (congrArg encI hgl.symm))) rfl ?_))
  refine CW.anyF 17 17 (fun _ => True) mixed (by kernel_rfl) fun w1 hw1 hRB => ?_
  replace hw := Ext.trans hw hw1; replace H := H.ext hw1; replace hP := hP.ext hw1; replace K0 := K0.ext hw1; clear hw1
  refine SF.take 0 [] [] hRB rfl (by kernel_rfl) (by kernel_rfl) (by kernel_rfl) ?_
  repeat (refine SW.pure rfl rfl ?_)
  refine SW.tknil ?_
  refine SF.take 1 [] [] hRB rfl (by kernel_rfl) (by kernel_rfl) (by kernel_rfl) ?_
  repeat ((show SW _ _ _ _ (⟨_, Op.nilCheck _, _, _, _, none⟩ :: _) _ _; refine SW.st (st_nilCheck rfl) rfl ?_))
  refine SW.tknil ?_
  refine SF.take 2 [] [] hRB rfl (by kernel_rfl) (by kernel_rfl) (by kernel_rfl) ?_
  repeat ((show SW _ _ _ _ (⟨_, Op.fieldAddr _ _ _, _, _, _, none⟩ :: _) _ _; refine SW.st (st_field rfl) rfl ?_))
  refine SW.tknil ?_
  refine SF.take 3 [] [] hRB rfl (by kernel_rfl) (by kernel_rfl) (by kernel_rfl) ?_
  repeat ((show SW _ _ _ _ (⟨_, Op.load _ _, _, _, _, none⟩ :: _) _ _; refine SW.st (st_load rfl (H.blk.cell (i := 3) (v := .slice p.li.A p.li.n p.li.c) rfl)) rfl ?_))
  refine SW.tknil ?_
  refine SF.take 4 [] [] hRB rfl (by kernel_rfl) (by kernel_rfl) (by kernel_rfl) ?_
  repeat (refine SW.pure rfl rfl ?_)
  refine SW.tknil ?_
  refine SF.take 5 [] [] hRB rfl (by kernel_rfl) (by kernel_rfl) (by kernel_rfl) ?_
  repeat (refine SW.pure rfl rfl ?_)
  refine SW.tknil ?_
  refine SF.take 6 [] [] hRB rfl (by kernel_rfl) (by kernel_rfl) (by kernel_rfl) ?_
  repeat ((show SW _ _ _ _ (⟨_, Op.nilCheck _, _, _, _, none⟩ :: _) _ _; refine SW.st (st_nilCheck rfl) rfl ?_))
  refine SW.tknil ?_
  refine SF.take 7 [] [] hRB rfl (by kernel_rfl) (by kernel_rfl) (by kernel_rfl) ?_
  repeat ((show SW _ _ _ _ (⟨_, Op.fieldAddr _ _ _, _, _, _, none⟩ :: _) _ _; refine SW.st (st_field rfl) rfl ?_))
  refine SW.tknil ?_
  refine SF.take 8 [] [] hRB rfl (by kernel_rfl) (by kernel_rfl) (by kernel_rfl) ?_
  repeat ((show SW _ _ _ _ (⟨_, Op.load _ _, _, _, _, none⟩ :: _) _ _; refine SW.st (st_load rfl (H.blk.cell (i := 3) (v := .slice p.li.A p.li.n p.li.c) rfl)) rfl ?_))
  refine SW.tknil ?_
  refine SF.take 9 [] [] hRB rfl (by kernel_rfl) (by kernel_rfl) (by kernel_rfl) ?_
  repeat (refine SW.pure rfl rfl ?_)
  refine SW.tknil ?_
  refine SF.take 10 [] [] hRB rfl (by kernel_rfl) (by kernel_rfl) (by kernel_rfl) ?_
  repeat ((show SW _ _ _ _ (⟨_, Op.indexAddr _ _ _, _, _, _, none⟩ :: _) _ _; refine SW.st (st_indexN rfl rfl (by assumption) (by omega)) rfl ?_))
  refine SW.tknil ?_
  refine SF.take 11 [] [] hRB rfl (by kernel_rfl) (by kernel_rfl) (by kernel_rfl) ?_
  repeat ((show SW _ _ _ _ (⟨_, Op.fieldAddr _ _ _, _, _, _, none⟩ :: _) _ _; refine SW.st (st_field rfl) rfl ?_))
  refine SW.tknil ?_
  refine SF.take 12 [] [] hRB rfl (by kernel_rfl) (by kernel_rfl) (by kernel_rfl) ?_
  repeat ((show SW _ _ _ _ (⟨_, Op.load _ _, _, _, _, none⟩ :: _) _ _; refine SW.st (st_load rfl (H.ls.row.sl.fld hkn (j := 3) e3)) rfl ?_))
  refine SW.tknil ?_
  refine SF.take 13 [] [] hRB rfl (by kernel_rfl) (by kernel_rfl) (by kernel_rfl) ?_
  repeat (refine SW.pure rfl rfl ?_)
  refine SW.tknil ?_
  refine SF.take 14 [] [] hRB rfl (by kernel_rfl) (by kernel_rfl) (by kernel_rfl) ?_
  repeat ((refine SW.st (st_sliceHi (k := y.Pages.n - 1) rfl (congrArg (fun z => some (Value.int .i64 z)) (by omega)) (by omega)) rfl ?_))
  refine SW.tknil ?_
  refine SF.take 15 [16] [16] hRB rfl (by kernel_rfl) (by kernel_rfl) (by kernel_rfl) ?_
  repeat ((show SW _ _ _ _ (⟨_, Op.indexAddr _ _ _, _, _, _, none⟩ :: _) _ _; refine SW.st (st_indexN rfl rfl (by assumption) (by omega)) rfl ?_))
  refine SW.tknil ?_
  refine SF.take 16 [] [] hRB rfl (by kernel_rfl) (by kernel_rfl) (by kernel_rfl) ?_
  repeat ((show SW _ _ _ _ (⟨_, Op.fieldAddr _ _ _, _, _, _, none⟩ :: _) _ _; refine SW.st (st_field rfl) rfl ?_))
  refine SW.tknil ?_
  refine SF.last rfl (by kernel_rfl) (by kernel_rfl) ?_
  refine SW.storeO kp 3 ⟨y.Cpu, y.Zone, y.Ty, ⟨y.Pages.A, y.Pages.n - 1, y.Pages.c⟩⟩ H.ls.row rfl rfl rfl hkn (by decide) rfl (by rw [hy]; rfl) fun w6 hrow' hg6 => ?_
  have hoy : ob (⟨y.Cpu, y.Zone, y.Ty, ⟨y.Pages.A, y.Pages.n - 1, y.Pages.c⟩⟩ : LRow).Pages = ob (p.ls[kp]'hks).Pages := by rw [hy]; rfl
  have hpre := hP.pre (i := y.Pages.n - 1) (by omega)
  have edl : pgs.take (y.Pages.n - 1) = pgs.dropLast := by rw [List.dropLast_eq_take, hpl]
  rw [edl] at hpre
  have H6 := HS.setRow (y := ⟨y.Cpu, y.Zone, y.Ty, ⟨y.Pages.A, y.Pages.n - 1, y.Pages.c⟩⟩) (l := withPg x pgs.dropLast) H hks hrow' hg6 ⟨pc.trans hkey.1, pz.trans hkey.2.1, pt.trans hkey.2.2, hpre⟩ hoy
  have K6 : KpH w k p w6 ⟨p.u0, p.u1, p.li, p.ls.set kp ⟨y.Cpu, y.Zone, y.Ty, ⟨y.Pages.A, y.Pages.n - 1, y.Pages.c⟩⟩⟩ := K0.step hg6 (fun i e => .inl (.inr (.inr (.inl e)))) (fun i e => .inl (mine_set hks hoy e))
  by_cases h1 : y.Pages.n = 1
  ·have eL : popL L x pgs = (L.set kp (withPg x pgs.dropLast)).eraseIdx kp := by rw [popL_erase (by omega), hkp, List.eraseIdx_set_eq]
   obtain ⟨p6, hp6⟩ : ∃ p6 : HP, p6 = ⟨p.u0, p.u1, p.li, p.ls.set kp ⟨y.Cpu, y.Zone, y.Ty, ⟨y.Pages.A, y.Pages.n - 1, y.Pages.c⟩⟩⟩ := ⟨_, rfl⟩
   have hli : p6.li = p.li := by rw [hp6]
   rw [← hp6] at H6 K6
   have hkn6 : kp < p6.li.n := by rw [hli]; exact hkn
   clear hw
   have hw := Ext.refl w6
   repeat' (first | (show CW _ _ _ _ _ _; first | refine CW.seq ?_ | refine CW.region ?_ | refine CW.condd_t rfl (by omega) ?_) | (show Post _ _ _ _ _; first | refine Post.seq ?_ | refine Post.np ?_) | refine SW.nil ?_ | refine SW.pure rfl rfl ?_ | (show SW _ _ _ _ (⟨_, Op.fieldAddr _ _ _, _, _, _, none⟩ :: _) _ _; refine SW.st (st_field rfl) rfl ?_) | (show SW _ _ _ _ (⟨_, Op.nilCheck _, _, _, _, none⟩ :: _) _ _; refine SW.st (st_nilCheck rfl) rfl ?_) | (show SW _ _ _ _ (⟨_, Op.binOp _ _ _ _ _, _, _, _, none⟩ :: _) _ _; refine SW.st (st_add rfl rfl (by omega) (by omega)) rfl ?_) | (show SW _ _ _ _ (⟨_, Op.load _ _, _, _, _, none⟩ :: _) _ _; refine SW.st (st_load rfl (H6.blk.cell (i := 3) (v := .slice p6.li.A p6.li.n p6.li.c) rfl)) rfl ?_))
   refine SW.callX rfl rfl (DeleteLRow_ans p6.li.A p6.li.n p6.li.c wb.heap.size p6.ls _ H6.ls.row kp hkn6 (by rw [hli]; omega) H6.low) fun v w7 hv7 => ?_
   obtain ⟨rfl, hO7, hg7⟩ := hv7
   have hb7 := H6.blk.grT (H6.ls.own_gr hg7) rfl
   repeat' (first | (show SW _ _ _ _ (⟨_, Op.fieldAddr _ _ _, _, _, _, none⟩ :: _) _ _; refine SW.st (st_field rfl) rfl ?_) | (show SW _ _ _ _ (⟨_, Op.nilCheck _, _, _, _, none⟩ :: _) _ _; refine SW.st (st_nilCheck rfl) rfl ?_))
   refine SW.storeB (i := 3) hb7 rfl rfl rfl rfl fun w8 hb8 hg8 => ?_
   have H8 := HS.cutRow H6 hO7 hg7 hb8 hg8
   have K7 := K6.step (p' := p6) hg7 (fun i e => .inl (.inr (.inr (.inl e)))) (fun i e => .inl e)
   have K8 := K7.step hg8 (fun i e => by cases e; exact .inl (.inl rfl)) (fun i e => .inl (mine_cut (i := kp) e))
   repeat' (first | (show CW _ _ _ _ _ _; first | refine CW.seq ?_ | refine CW.region ?_ | refine CW.ret ?_) | (show Post _ _ _ _ _; first | refine Post.seq ?_ | refine Post.seq_ret ?_) | refine SW.nil ?_ | refine SW.pure rfl rfl ?_)
   exact Post.ret2 rfl rfl rfl ⟨_, rfl, _, hTry, rfl, _, by simp only [trL, eL]; exact H8, K8⟩
  ·have eL : popL L x pgs = L.set kp (withPg x pgs.dropLast) := by rw [popL_set (by omega), hkp]
   repeat' (first | (show CW _ _ _ _ _ _; first | refine CW.seq ?_ | refine CW.region ?_ | refine CW.condd_f rfl (by omega) ?_ | refine CW.skip ?_ | refine CW.ret ?_) | (show Post _ _ _ _ _; first | refine Post.seq ?_ | refine Post.seq_ret ?_ | refine Post.np ?_) | refine SW.nil ?_ | refine SW.pure rfl rfl ?_)
   exact Post.ret2 rfl rfl rfl ⟨_, rfl, _, hTry, rfl, _, by simp only [trL, eL]; exact H6, K6⟩
end Go.Proofs.YtfommgdbahemfaaDoor
