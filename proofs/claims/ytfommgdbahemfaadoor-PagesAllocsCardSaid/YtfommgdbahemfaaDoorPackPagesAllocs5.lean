/-
  Texts of the claim PagesAllocs, part 5: what its theorem leans on.
-/
import Derived.Test.YtfommgdbahemfaaDoorPackPagesAllocs4
import Derived.Test.YtfommgdbahemfaaDoorPackPagesAllocs3
import Derived.Test.YtfommgdbahemfaaDoorPackPagesAllocs2
set_option linter.unusedVariables false
namespace Go.Proofs.YtfommgdbahemfaaDoor
open Go.RowKit
def lowOf (f : Int) (l : List Block) : Nat → Int
 | 0 => f
 | k + 1 => match l[k]? with
  | some b => b.At + pw b.Order
  | none => 0
theorem lowOf_succ (f : Int) (l : List Block) (k : Nat) (h : k < l.length) : lowOf f l (k + 1) = l[k].At + pw l[k].Order := by simp [lowOf, List.getElem?_eq_getElem h]
set_option maxHeartbeats 4000000 in
theorem ZoneMay_ans (r : ZRow) (z : Zone) (w : World) (hr : RdZ w r z) (hf : r.Free.n ≤ 2305843009213693952) (ht : r.Types.n ≤ 1000000000000000000) (h1 : -9223372036854775808 ≤ r.From ∧ r.From ≤ 9223372036854775807) (h2 : -9223372036854775808 ≤ r.To ∧ r.To ≤ 9223372036854775807) :
  Ans Tryd.prog 26 [.agg (encZ r).toArray] w fun v _ => v = .bool (zoneB z) := by
 refine ans_of Tryd.func26 rfl Tryd.ntmps26 rfl ?_
 refine CW.seq (CW.region (SW.box rfl rfl fun b1 w1 hw hb1b hb1 => ?_))
 have eF := hr.from_
 have eT := hr.to_
 have hFl := hr.free.len
 have hTl := hr.types.len
 repeat' (first | (show CW _ _ _ _ _ _; first | refine CW.seq ?_ | refine CW.region ?_) | (show Post _ _ _ _ _; refine Post.seq ?_) | refine SW.nil ?_ | refine SW.pure rfl rfl ?_ | (show SW _ _ _ _ (⟨_, Op.fieldAddr _ _ _, _, _, _, none⟩ :: _) _ _; refine SW.st (st_field rfl) rfl ?_) | (show SW _ _ _ _ (⟨_, Op.load _ _, _, _, _, none⟩ :: _) _ _; refine SW.st (st_load rfl (hb1.cell rfl)) rfl ?_))
 refine SW.call rfl rfl (ZoneNew_ans r.From r.To _ h1 h2) fun v w2 hw2 hv => ?_
 (replace hw := Ext.trans hw hw2; replace hb1 := hb1.ext hw2)
 by_cases hok : zoneOk r.From r.To
 ·rw [zoneNewV_t hok] at hv
  obtain ⟨s, rfl, hs⟩ := hv
  obtain ⟨o1, o2, o3, o4, o5⟩ := id hok
  by_cases hl8 : 8 * (z.Types.length : Int) = z.To - z.From
  ·repeat' (refine SW.pure rfl rfl ?_)
   refine SW.alloc rfl fun b3 w1 hw1 hb3b hb3 => ?_
   have hb3w : w.heap.size ≤ b3 := Nat.le_trans hw.size hb3b
   have hne_b1 : b1 ≠ b3 := by have := hb1.lt; omega
   replace hw := Ext.trans hw hw1
   replace hb1 := hb1.ext hw1
   replace hs := hs.ext hw1
   refine SW.storeAgg hb3 rfl rfl rfl rfl (one_z _) fun w2 hb3' hg => ?_
   replace hw := hw.own hb3w hg
   replace hs := hs.blk hb3 hg rfl rfl
   replace hb1 := hb1.grown hg (by simpa using hne_b1)
   replace hb3 := hb3'
   clear hb3' hw1 hg hb3b
   repeat' (first | (show CW _ _ _ _ _ _; first | refine CW.seq ?_ | refine CW.region ?_ | refine CW.block ?_ | refine CW.condn_f rfl (by omega) ?_ | refine CW.skip ?_) | (show Post _ _ _ _ _; refine Post.seq ?_) | refine SW.nil ?_ | (show SW _ _ _ _ (⟨_, _, _, _, _, some _⟩ :: _) _ _; first | refine SW.want_f rfl rfl (by with_reducible rfl) ?_ | refine SW.splitn_f rfl rfl rfl (by omega) ?_) | refine SW.pure rfl rfl ?_ | (show SW _ _ _ _ (⟨_, Op.fieldAddr _ _ _, _, _, _, none⟩ :: _) _ _; refine SW.st (st_field rfl) rfl ?_) | (show SW _ _ _ _ (⟨_, Op.binOp _ _ _ _ _, _, _, _, none⟩ :: _) _ _; first | refine SW.st (st_sub rfl rfl (by omega) (by omega)) rfl ?_ | refine SW.st (st_mul rfl rfl (by omega) (by omega)) rfl ?_) | (show SW _ _ _ _ (⟨_, Op.call ⟨.builtin .len, _, _⟩, _, _, _, none⟩ :: _) _ _; refine SW.st (st_len rfl) rfl ?_) | (show SW _ _ _ _ (⟨_, Op.load _ _, _, _, _, none⟩ :: _) _ _; refine SW.st (st_load rfl (hb1.cell rfl)) rfl ?_))
   refine CW.loop (fun k : Nat => [(1, .pointer (some ⟨b1, 0, none⟩)), (5, .int .i64 (k : Int))]) (fun k w' => k ≤ r.Types.n ∧ Ext w w' ∧ Blk w' b1 25 (encZ r) ∧ ∀ (j : Nat) (hj : j < z.Types.length), j < k → tyOk z.Types[j]) (fun k => r.Types.n - k) 0
    ⟨rfl, rfl, trivial⟩ ⟨by omega, hw, hb1, fun j _ h => by omega⟩ ?_
   clear hw hb1 hb3 hs
   rintro k w' ⟨hk, hw, hb1, hI⟩
   have hA := hr.types.base
   by_cases hkn : k < r.Types.n
   ·have hkl := hr.types.lt hkn
    by_cases hty : tyOk (z.Types[k])
    ·obtain ⟨t1, t2⟩ := id hty
     repeat' (first | (show CW _ _ _ _ _ _; first | refine CW.seq ?_ | refine CW.region ?_ | refine CW.block ?_ | refine CW.condd_t rfl (by omega) ?_ | refine CW.condn_f rfl (by omega) ?_ | refine CW.skip ?_) | (show Post _ _ _ _ _; first | refine Post.seq ?_ | refine Post.blk ?_) | refine SW.nil ?_ | refine SW.pure rfl rfl ?_ | (show SW _ _ _ _ (⟨_, Op.fieldAddr _ _ _, _, _, _, none⟩ :: _) _ _; refine SW.st (st_field rfl) rfl ?_) | (show SW _ _ _ _ (⟨_, Op.binOp _ _ _ _ _, _, _, _, none⟩ :: _) _ _; refine SW.st (st_add rfl rfl (by omega) (by omega)) rfl ?_) | (show SW _ _ _ _ (⟨_, Op.indexAddr _ _ _, _, _, _, none⟩ :: _) _ _; refine SW.st (st_indexN rfl rfl (by assumption) (by omega)) rfl ?_) | (show SW _ _ _ _ (⟨_, Op.call ⟨.builtin .len, _, _⟩, _, _, _, none⟩ :: _) _ _; refine SW.st (st_len rfl) rfl ?_) | (show SW _ _ _ _ (⟨_, Op.load _ _, _, _, _, none⟩ :: _) _ _; first | refine SW.st (st_load rfl (hb1.cell rfl)) rfl ?_ | refine SW.st (st_loadx hw rfl (hr.types.one hkn rfl)) rfl ?_) | (show SW _ _ _ _ (⟨_, Op.call ⟨.value (.func _), _, _⟩, _, _, _, none⟩ :: _) _ _; (refine SW.call rfl rfl (In_ans _ _ _ _) ?_; intro v w1 hw1 hv; subst hv; replace hw := Ext.trans hw hw1; replace hb1 := hb1.ext hw1; clear hw1)))
     all_goals first | (exfalso; omega) | skip
     refine Post.again (k + 1) ⟨rfl, rfl, trivial⟩ (by omega) ⟨by omega, hw, hb1, fun j hj h => ?_⟩
     by_cases hjk : j = k
     ·subst hjk; exact hty
     ·exact hI j hj (by omega)
    ·have hn : ¬ (0 ≤ z.Types[k] ∧ z.Types[k] ≤ 2) := hty
     repeat' (first | (show CW _ _ _ _ _ _; first | refine CW.seq ?_ | refine CW.region ?_ | refine CW.block ?_ | refine CW.condd_t rfl (by omega) ?_ | refine CW.condn_t rfl (by omega) ?_ | refine CW.skip ?_ | refine CW.ret ?_) | (show Post _ _ _ _ _; first | refine Post.seq ?_ | refine Post.seq_ret ?_ | refine Post.blk_ret ?_ | refine Post.again_ret ?_) | refine SW.nil ?_ | refine SW.pure rfl rfl ?_ | (show SW _ _ _ _ (⟨_, Op.fieldAddr _ _ _, _, _, _, none⟩ :: _) _ _; refine SW.st (st_field rfl) rfl ?_) | (show SW _ _ _ _ (⟨_, Op.indexAddr _ _ _, _, _, _, none⟩ :: _) _ _; refine SW.st (st_indexN rfl rfl (by assumption) (by omega)) rfl ?_) | (show SW _ _ _ _ (⟨_, Op.call ⟨.builtin .len, _, _⟩, _, _, _, none⟩ :: _) _ _; refine SW.st (st_len rfl) rfl ?_) | (show SW _ _ _ _ (⟨_, Op.load _ _, _, _, _, none⟩ :: _) _ _; first | refine SW.st (st_load rfl (hb1.cell rfl)) rfl ?_ | refine SW.st (st_loadx hw rfl (hr.types.one hkn rfl)) rfl ?_) | (show SW _ _ _ _ (⟨_, Op.call ⟨.value (.func _), _, _⟩, _, _, _, none⟩ :: _) _ _; (refine SW.call rfl rfl (In_ans _ _ _ _) ?_; intro v w1 hw1 hv; subst hv; replace hw := Ext.trans hw hw1; replace hb1 := hb1.ext hw1; clear hw1)))
     all_goals first | (exfalso; omega) | skip
     refine Post.ret1 rfl rfl ⟨_, rfl, hw, ?_⟩
     rw [zoneB_f (fun h => hty (h.types _ (List.getElem_mem hkl)))]
   ·have hty : ∀ t ∈ z.Types, tyOk t := fun t htt => by
     obtain ⟨j, hj, rfl⟩ := List.getElem_of_mem htt
     exact hI j hj (by omega)
    clear hI hA
    repeat' (first | (show CW _ _ _ _ _ _; first | refine CW.seq ?_ | refine CW.region ?_ | refine CW.block ?_ | refine CW.condd_f rfl (by omega) ?_ | refine CW.exit ?_) | (show Post _ _ _ _ _; first | refine Post.seq ?_ | refine Post.seq_exit ?_ | refine Post.hit ?_ | refine Post.again_exit ?_) | refine SW.nil ?_ | refine SW.pure rfl rfl ?_ | (show SW _ _ _ _ (⟨_, Op.fieldAddr _ _ _, _, _, _, none⟩ :: _) _ _; refine SW.st (st_field rfl) rfl ?_) | (show SW _ _ _ _ (⟨_, Op.call ⟨.builtin .len, _, _⟩, _, _, _, none⟩ :: _) _ _; refine SW.st (st_len rfl) rfl ?_) | (show SW _ _ _ _ (⟨_, Op.load _ _, _, _, _, none⟩ :: _) _ _; refine SW.st (st_load rfl (hb1.cell rfl)) rfl ?_))
    refine CW.loop (fun k : Nat => [(1, .pointer (some ⟨b1, 0, none⟩)), (6, .int .i64 (lowOf z.From z.Free k)), (7, .int .i64 (k : Int))])
     (fun k w' => k ≤ r.Free.n ∧ Ext w w' ∧ Blk w' b1 25 (encZ r) ∧ (∀ (i : Nat) (h : i < z.Free.length), i < k → blkOk z.From z.To z.Free[i]) ∧ (∀ (i : Nat) (h : i + 1 < z.Free.length), i + 1 < k → nextOk z.Free[i] z.Free[i + 1]))
     (fun k => r.Free.n - k) 0 ⟨rfl, by rw [eF]; rfl, rfl, trivial⟩ ⟨by omega, hw, hb1, fun i h hi => by omega, fun i h hi => by omega⟩ ?_
    clear hw hb1 hk hkn
    rintro k w' ⟨hk, hw, hb1, hI, hN⟩
    have hA := hr.free.base
    by_cases hkn : k < r.Free.n
    ·have hkl := hr.free.lt hkn
     have cM : ∀ w', Ans Tryd.prog 65 [.agg (encZ r).toArray, .int .i64 (z.Free[k]).At, .int .i64 (z.Free[k]).Order] w' fun v _ => v = .bool (decide (fitsZ z.From z.To (z.Free[k]).At (z.Free[k]).Order)) := fun w' => by
      have := blockMay_ans r (z.Free[k]).At (z.Free[k]).Order w' ⟨by omega, by omega⟩ ⟨by omega, by omega⟩
      rwa [eF, eT] at this
     repeat' (first | (show CW _ _ _ _ _ _; first | refine CW.seq ?_ | refine CW.region ?_ | refine CW.block ?_ | refine CW.condd_t rfl (by omega) ?_ | refine CW.skip ?_) | (show Post _ _ _ _ _; refine Post.seq ?_) | refine SW.nil ?_ | refine SW.pure rfl rfl ?_ | (show SW _ _ _ _ (⟨_, Op.fieldAddr _ _ _, _, _, _, none⟩ :: _) _ _; refine SW.st (st_field rfl) rfl ?_) | (show SW _ _ _ _ (⟨_, Op.indexAddr _ _ _, _, _, _, none⟩ :: _) _ _; refine SW.st (st_indexN rfl rfl (by assumption) (by omega)) rfl ?_) | (show SW _ _ _ _ (⟨_, Op.call ⟨.builtin .len, _, _⟩, _, _, _, none⟩ :: _) _ _; refine SW.st (st_len rfl) rfl ?_) | (show SW _ _ _ _ (⟨_, Op.load _ _, _, _, _, none⟩ :: _) _ _; first | refine SW.st (st_load rfl (hb1.cell rfl)) rfl ?_ | refine SW.st (st_loadsx hw rfl rfl ((hr.free.all hkn))) rfl ?_))
     refine SW.alloc rfl fun b7 w3 hw3 hb7b hb7 => ?_
     have hb7w : w.heap.size ≤ b7 := Nat.le_trans hw.size hb7b
     have hne : b1 ≠ b7 := by have := hb1.lt; omega
     (replace hw := Ext.trans hw hw3; replace hb1 := hb1.ext hw3)
     skip
     refine SW.storeAgg hb7 rfl rfl rfl rfl (Enc.one (enc := encBk) _) fun w4 hb7' hg => ?_
     replace hw := hw.own hb7w hg
     replace hb1 := hb1.grown hg (by simpa using hne)
     by_cases hbk : blkOk z.From z.To z.Free[k]
     ·obtain ⟨hfz, t1, t2⟩ := id hbk
      obtain ⟨f1, f2, f3, f4, f5⟩ := id hfz
      have hp := pw_le f1 f2
      have hp2 := pw_succ f1 f2
      rw [decide_eq_true hfz] at cM
      by_cases hk0 : k = 0
      ·subst hk0
       have hlow : lowOf z.From z.Free 0 = z.From := rfl
       repeat' (first | (show CW _ _ _ _ _ _; first | refine CW.seq ?_ | refine CW.region ?_ | refine CW.condfr rfl (by with_reducible rfl) ?_ | refine CW.condd_f rfl (by omega) ?_ | refine CW.skip ?_ | (apply CW.quiet1 mixed; (· kernel_rfl); rotate_left; intro w1 hw1; replace hw := Ext.trans hw hw1; replace hb1 := hb1.ext hw1; replace hb7' := hb7'.ext hw1; clear hw1; rotate_right)) | (show Post _ _ _ _ _; first | refine Post.seq ?_ | refine Post.blk ?_) | refine SW.nil ?_ | (show SW _ _ _ _ (⟨_, _, _, _, _, some _⟩ :: _) _ _; first | refine SW.want_f rfl rfl (by with_reducible rfl) ?_ | refine SW.skip_t rfl rfl (by with_reducible rfl) rfl ?_ | refine SW.splitd_f rfl rfl rfl (by omega) ?_ | refine SW.splitn_f rfl rfl rfl (by omega) ?_ | refine SW.want rfl rfl ?_) | refine SW.pure rfl rfl ?_ | (show SW _ _ _ _ (⟨_, Op.fieldAddr _ _ _, _, _, _, none⟩ :: _) _ _; refine SW.st (st_field rfl) rfl ?_) | (show SW _ _ _ _ (⟨_, Op.binOp _ _ _ _ _, _, _, _, none⟩ :: _) _ _; refine SW.st (st_add rfl rfl (by omega) (by omega)) rfl ?_) | (show SW _ _ _ _ (⟨_, Op.load _ _, _, _, _, none⟩ :: _) _ _; first | refine SW.st (st_loads rfl rfl ((fun _ _ => hb1.cell))) rfl ?_ | refine SW.st (st_load rfl (hb7'.cell rfl)) rfl ?_) | (show SW _ _ _ _ (⟨_, Op.call ⟨.value (.func _), _, _⟩, _, _, _, none⟩ :: _) _ _; first | (refine SW.call rfl rfl (cM _) ?_; intro v w1 hw1 hv; subst hv; replace hw := Ext.trans hw hw1; replace hb1 := hb1.ext hw1; replace hb7' := hb7'.ext hw1; clear hw1) | (refine SW.call rfl rfl (In_ans _ _ _ _) ?_; intro v w1 hw1 hv; subst hv; replace hw := Ext.trans hw hw1; replace hb1 := hb1.ext hw1; replace hb7' := hb7'.ext hw1; clear hw1) | refine SW.qcall rfl rfl (fun w1 hw1 => (power_ans _ (by omega) _)) ?_) | exact SW.qnil rfl)
       all_goals first | (exfalso; omega) | skip
       refine Post.again (0 + 1) ⟨rfl, by rw [lowOf_succ _ _ _ hkl]; rfl, rfl, trivial⟩ (by omega) ⟨by omega, hw, hb1, fun i h hi => ?_, fun i h hi => by omega⟩
       obtain rfl : i = 0 := by omega
       exact hbk
      ·obtain ⟨j, rfl⟩ : ∃ j, k = j + 1 := ⟨k - 1, by omega⟩
       have hj : j < r.Free.n := by omega
       have hjl := hr.free.lt hj
       have hbj := hI j hjl (by omega)
       obtain ⟨⟨g1, g2, g3, g4, g5⟩, _⟩ := id hbj
       have hlow := lowOf_succ z.From z.Free j hjl
       have em : (z.Free[j]).At.tmod (pw ((z.Free[j + 1]).Order + 1)) = (z.Free[j]).At % (pw ((z.Free[j + 1]).Order + 1)) := Int.tmod_eq_emod_of_nonneg (by omega)
       by_cases hlt : (z.Free[j]).At + pw (z.Free[j]).Order ≤ (z.Free[j + 1]).At
       ·have hnr := next_ref hbj hbk hlt
        by_cases hbu : (z.Free[j + 1]).Order < 4 ∧ (z.Free[j]).Order = (z.Free[j + 1]).Order ∧ (z.Free[j]).At + pw (z.Free[j + 1]).Order = (z.Free[j + 1]).At ∧ (z.Free[j]).At % pw ((z.Free[j + 1]).Order + 1) = 0
        ·have hbad := hnr.2 hbu
         obtain ⟨u1, u2, u3, u4⟩ := id hbu
         clear hnr
         repeat' (first | (show CW _ _ _ _ _ _; first | refine CW.seq ?_ | refine CW.region ?_ | refine CW.condd_t rfl (by omega) ?_ | refine CW.condd_f rfl (by omega) ?_ | refine CW.skip ?_ | refine CW.ret ?_ | (apply CW.quiet1 mixed; (· kernel_rfl); rotate_left; intro w1 hw1; replace hw := Ext.trans hw hw1; replace hb1 := hb1.ext hw1; replace hb7' := hb7'.ext hw1; clear hw1; rotate_right)) | (show Post _ _ _ _ _; first | refine Post.seq ?_ | refine Post.seq_ret ?_ | refine Post.blk_ret ?_ | refine Post.again_ret ?_) | refine SW.nil ?_ | (show SW _ _ _ _ (⟨_, _, _, _, _, some _⟩ :: _) _ _; first | refine SW.want_t rfl rfl (by with_reducible rfl) ?_ | refine SW.want_f rfl rfl (by with_reducible rfl) ?_ | refine SW.splitd_t rfl rfl rfl (by omega) ?_ | refine SW.splitd_f rfl rfl rfl (by omega) ?_ | refine SW.splitn_f rfl rfl rfl (by omega) ?_) | refine SW.pure rfl rfl ?_ | (show SW _ _ _ _ (⟨_, Op.fieldAddr _ _ _, _, _, _, none⟩ :: _) _ _; refine SW.st (st_field rfl) rfl ?_) | (show SW _ _ _ _ (⟨_, Op.binOp _ _ _ _ _, _, _, _, none⟩ :: _) _ _; first | refine SW.st (st_add rfl rfl (by omega) (by omega)) rfl ?_ | refine SW.st (st_sub rfl rfl (by omega) (by omega)) rfl ?_ | refine SW.st (st_rem rfl rfl (by omega)) rfl ?_) | (show SW _ _ _ _ (⟨_, Op.indexAddr _ _ _, _, _, _, none⟩ :: _) _ _; refine SW.st (st_indexI (j) rfl rfl (by assumption) (by omega) (by omega)) rfl ?_) | (show SW _ _ _ _ (⟨_, Op.load _ _, _, _, _, none⟩ :: _) _ _; first | refine SW.st (st_loads rfl rfl ((fun _ _ => hb1.cell))) rfl ?_ | refine SW.st (st_load rfl (hb7'.cell rfl)) rfl ?_ | refine SW.st (st_load rfl (hb1.cell rfl)) rfl ?_ | refine SW.st (st_loadx hw rfl (hr.free.fld hj rfl)) rfl ?_) | (show SW _ _ _ _ (⟨_, Op.call ⟨.value (.func _), _, _⟩, _, _, _, none⟩ :: _) _ _; first | (refine SW.call rfl rfl (cM _) ?_; intro v w1 hw1 hv; subst hv; replace hw := Ext.trans hw hw1; replace hb1 := hb1.ext hw1; replace hb7' := hb7'.ext hw1; clear hw1) | (refine SW.call rfl rfl (In_ans _ _ _ _) ?_; intro v w1 hw1 hv; subst hv; replace hw := Ext.trans hw hw1; replace hb1 := hb1.ext hw1; replace hb7' := hb7'.ext hw1; clear hw1) | refine SW.qcall rfl rfl (fun w1 hw1 => (power_ans _ (by omega) _)) ?_) | exact SW.qnil rfl)
         all_goals first | (exfalso; omega) | skip
         refine Post.ret1 rfl rfl ⟨_, rfl, hw, ?_⟩
         rw [zoneB_f (fun h => (h.next j hkl).2 hbad)]
        ·have hok' : nextOk z.Free[j] z.Free[j + 1] := ⟨hlt, fun h => hbu (hnr.1 h)⟩
         have hd : (¬ (z.Free[j + 1]).Order < 4) ∨ ((z.Free[j + 1]).Order < 4 ∧ ¬ (z.Free[j]).Order = (z.Free[j + 1]).Order) ∨ ((z.Free[j + 1]).Order < 4 ∧ (z.Free[j]).Order = (z.Free[j + 1]).Order ∧ ¬ (z.Free[j]).At + pw (z.Free[j + 1]).Order = (z.Free[j + 1]).At) ∨
          ((z.Free[j + 1]).Order < 4 ∧ (z.Free[j]).Order = (z.Free[j + 1]).Order ∧ (z.Free[j]).At + pw (z.Free[j + 1]).Order = (z.Free[j + 1]).At ∧ ¬ (z.Free[j]).At % pw ((z.Free[j + 1]).Order + 1) = 0) := by
          by_cases u1 : (z.Free[j + 1]).Order < 4
          ·by_cases u2 : (z.Free[j]).Order = (z.Free[j + 1]).Order
           ·by_cases u3 : (z.Free[j]).At + pw (z.Free[j + 1]).Order = (z.Free[j + 1]).At
            ·exact .inr (.inr (.inr ⟨u1, u2, u3, fun u4 => hbu ⟨u1, u2, u3, u4⟩⟩))
            ·exact .inr (.inr (.inl ⟨u1, u2, u3⟩))
           ·exact .inr (.inl ⟨u1, u2⟩)
          ·exact .inl u1
         clear hnr
         have hnext : ∀ (i : Nat) (h : i + 1 < z.Free.length), i + 1 < j + 1 + 1 → nextOk z.Free[i] z.Free[i + 1] := fun i h hi => by
          by_cases hij : i = j
          ·subst hij; exact hok'
          ·exact hN i h (by omega)
         have hblk : ∀ (i : Nat) (h : i < z.Free.length), i < j + 1 + 1 → blkOk z.From z.To z.Free[i] := fun i h hi => by
          by_cases hij : i = j + 1
          ·subst hij; exact hbk
          ·exact hI i h (by omega)
         rcases hd with u1 | ⟨u1, u2⟩ | ⟨u1, u2, u3⟩ | ⟨u1, u2, u3, u4⟩
         all_goals
          repeat' (first | (show CW _ _ _ _ _ _; first | refine CW.seq ?_ | refine CW.region ?_ | refine CW.condfr rfl (by with_reducible rfl) ?_ | refine CW.condd_f rfl (by omega) ?_ | refine CW.skip ?_ | (apply CW.quiet1 mixed; (· kernel_rfl); rotate_left; intro w1 hw1; replace hw := Ext.trans hw hw1; replace hb1 := hb1.ext hw1; replace hb7' := hb7'.ext hw1; clear hw1; rotate_right)) | (show Post _ _ _ _ _; first | refine Post.seq ?_ | refine Post.blk ?_) | refine SW.nil ?_ | (show SW _ _ _ _ (⟨_, _, _, _, _, some _⟩ :: _) _ _; first | refine SW.want_t rfl rfl (by with_reducible rfl) ?_ | refine SW.want_f rfl rfl (by with_reducible rfl) ?_ | refine SW.skip_t rfl rfl (by with_reducible rfl) rfl ?_ | refine SW.splitd_t rfl rfl rfl (by omega) ?_ | refine SW.splitd_f rfl rfl rfl (by omega) ?_ | refine SW.splitn_f rfl rfl rfl (by omega) ?_ | refine SW.want rfl rfl ?_) | refine SW.pure rfl rfl ?_ | (show SW _ _ _ _ (⟨_, Op.fieldAddr _ _ _, _, _, _, none⟩ :: _) _ _; refine SW.st (st_field rfl) rfl ?_) | (show SW _ _ _ _ (⟨_, Op.binOp _ _ _ _ _, _, _, _, none⟩ :: _) _ _; first | refine SW.st (st_add rfl rfl (by omega) (by omega)) rfl ?_ | refine SW.st (st_sub rfl rfl (by omega) (by omega)) rfl ?_ | refine SW.st (st_rem rfl rfl (by omega)) rfl ?_) | (show SW _ _ _ _ (⟨_, Op.indexAddr _ _ _, _, _, _, none⟩ :: _) _ _; refine SW.st (st_indexI (j) rfl rfl (by assumption) (by omega) (by omega)) rfl ?_) | (show SW _ _ _ _ (⟨_, Op.load _ _, _, _, _, none⟩ :: _) _ _; first | refine SW.st (st_loads rfl rfl ((fun _ _ => hb1.cell))) rfl ?_ | refine SW.st (st_load rfl (hb7'.cell rfl)) rfl ?_ | refine SW.st (st_load rfl (hb1.cell rfl)) rfl ?_ | refine SW.st (st_loadx hw rfl (hr.free.fld hj rfl)) rfl ?_) | (show SW _ _ _ _ (⟨_, Op.call ⟨.value (.func _), _, _⟩, _, _, _, none⟩ :: _) _ _; first | (refine SW.call rfl rfl (cM _) ?_; intro v w1 hw1 hv; subst hv; replace hw := Ext.trans hw hw1; replace hb1 := hb1.ext hw1; replace hb7' := hb7'.ext hw1; clear hw1) | (refine SW.call rfl rfl (In_ans _ _ _ _) ?_; intro v w1 hw1 hv; subst hv; replace hw := Ext.trans hw hw1; replace hb1 := hb1.ext hw1; replace hb7' := hb7'.ext hw1; clear hw1) | refine SW.qcall rfl rfl (fun w1 hw1 => (power_ans _ (by omega) _)) ?_) | exact SW.qnil rfl)
          all_goals first | (exfalso; omega) | skip
          exact Post.again (j + 1 + 1) ⟨rfl, by rw [lowOf_succ _ _ _ hkl]; rfl, rfl, trivial⟩ (by omega) ⟨by omega, hw, hb1, hblk, hnext⟩
       ·repeat' (first | (show CW _ _ _ _ _ _; first | refine CW.seq ?_ | refine CW.region ?_ | refine CW.condd_t rfl (by omega) ?_ | refine CW.ret ?_) | (show Post _ _ _ _ _; first | refine Post.seq ?_ | refine Post.seq_ret ?_ | refine Post.blk_ret ?_ | refine Post.again_ret ?_) | refine SW.nil ?_ | (show SW _ _ _ _ (⟨_, _, _, _, _, some _⟩ :: _) _ _; first | refine SW.want_f rfl rfl (by with_reducible rfl) ?_ | refine SW.splitn_f rfl rfl rfl (by omega) ?_ | refine SW.want rfl rfl ?_) | refine SW.pure rfl rfl ?_ | (show SW _ _ _ _ (⟨_, Op.fieldAddr _ _ _, _, _, _, none⟩ :: _) _ _; refine SW.st (st_field rfl) rfl ?_) | (show SW _ _ _ _ (⟨_, Op.load _ _, _, _, _, none⟩ :: _) _ _; first | refine SW.st (st_loads rfl rfl ((fun _ _ => hb1.cell))) rfl ?_ | refine SW.st (st_load rfl (hb7'.cell rfl)) rfl ?_) | (show SW _ _ _ _ (⟨_, Op.call ⟨.value (.func _), _, _⟩, _, _, _, none⟩ :: _) _ _; first | (refine SW.call rfl rfl (cM _) ?_; intro v w1 hw1 hv; subst hv; replace hw := Ext.trans hw hw1; replace hb1 := hb1.ext hw1; replace hb7' := hb7'.ext hw1; clear hw1) | (refine SW.call rfl rfl (In_ans _ _ _ _) ?_; intro v w1 hw1 hv; subst hv; replace hw := Ext.trans hw hw1; replace hb1 := hb1.ext hw1; replace hb7' := hb7'.ext hw1; clear hw1)))
        all_goals first | (exfalso; omega) | skip
        refine Post.ret1 rfl rfl ⟨_, rfl, hw, ?_⟩
        rw [zoneB_f (fun h => hlt (h.next j hkl).1)]
     ·have hfail : zoneB z = false := zoneB_f (fun h => hbk (h.blk k hkl))
      by_cases hfz : fitsZ z.From z.To (z.Free[k]).At (z.Free[k]).Order
      ·have hty' : ¬ (0 ≤ (z.Free[k]).Ty ∧ (z.Free[k]).Ty ≤ 2) := fun h => hbk ⟨hfz, h⟩
       rw [decide_eq_true hfz] at cM
       repeat' (first | (show CW _ _ _ _ _ _; first | refine CW.seq ?_ | refine CW.region ?_ | refine CW.condtr rfl (by with_reducible rfl) ?_ | refine CW.ret ?_) | (show Post _ _ _ _ _; first | refine Post.seq ?_ | refine Post.seq_ret ?_ | refine Post.blk_ret ?_ | refine Post.again_ret ?_) | refine SW.nil ?_ | (show SW _ _ _ _ (⟨_, _, _, _, _, some _⟩ :: _) _ _; first | refine SW.skip_f rfl rfl (by with_reducible rfl) rfl ?_ | refine SW.splitn_t rfl rfl rfl (by omega) ?_ | refine SW.want rfl rfl ?_) | refine SW.pure rfl rfl ?_ | (show SW _ _ _ _ (⟨_, Op.fieldAddr _ _ _, _, _, _, none⟩ :: _) _ _; refine SW.st (st_field rfl) rfl ?_) | (show SW _ _ _ _ (⟨_, Op.load _ _, _, _, _, none⟩ :: _) _ _; first | refine SW.st (st_loads rfl rfl ((fun _ _ => hb1.cell))) rfl ?_ | refine SW.st (st_load rfl (hb7'.cell rfl)) rfl ?_) | (show SW _ _ _ _ (⟨_, Op.call ⟨.value (.func _), _, _⟩, _, _, _, none⟩ :: _) _ _; first | (refine SW.call rfl rfl (cM _) ?_; intro v w1 hw1 hv; subst hv; replace hw := Ext.trans hw hw1; replace hb1 := hb1.ext hw1; replace hb7' := hb7'.ext hw1; clear hw1) | (refine SW.call rfl rfl (In_ans _ _ _ _) ?_; intro v w1 hw1 hv; subst hv; replace hw := Ext.trans hw hw1; replace hb1 := hb1.ext hw1; replace hb7' := hb7'.ext hw1; clear hw1)))
       all_goals first | (exfalso; omega) | skip
       exact Post.ret1 rfl rfl ⟨_, rfl, hw, by rw [hfail]⟩
      ·rw [decide_eq_false hfz] at cM
       repeat' (first | (show CW _ _ _ _ _ _; first | refine CW.seq ?_ | refine CW.region ?_ | refine CW.condtr rfl (by with_reducible rfl) ?_ | refine CW.ret ?_) | (show Post _ _ _ _ _; first | refine Post.seq ?_ | refine Post.seq_ret ?_ | refine Post.blk_ret ?_ | refine Post.again_ret ?_) | refine SW.nil ?_ | (show SW _ _ _ _ (⟨_, _, _, _, _, some _⟩ :: _) _ _; first | refine SW.skip_f rfl rfl (by with_reducible rfl) rfl ?_ | refine SW.skip rfl rfl rfl rfl ?_) | refine SW.pure rfl rfl ?_ | (show SW _ _ _ _ (⟨_, Op.fieldAddr _ _ _, _, _, _, none⟩ :: _) _ _; refine SW.st (st_field rfl) rfl ?_) | (show SW _ _ _ _ (⟨_, Op.load _ _, _, _, _, none⟩ :: _) _ _; first | refine SW.st (st_loads rfl rfl ((fun _ _ => hb1.cell))) rfl ?_ | refine SW.st (st_load rfl (hb7'.cell rfl)) rfl ?_) | (show SW _ _ _ _ (⟨_, Op.call ⟨.value (.func _), _, _⟩, _, _, _, none⟩ :: _) _ _; (refine SW.call rfl rfl (cM _) ?_; intro v w1 hw1 hv; subst hv; replace hw := Ext.trans hw hw1; replace hb1 := hb1.ext hw1; replace hb7' := hb7'.ext hw1; clear hw1)))
       exact Post.ret1 rfl rfl ⟨_, rfl, hw, by rw [hfail]⟩
    ·repeat' (first | (show CW _ _ _ _ _ _; first | refine CW.seq ?_ | refine CW.region ?_ | refine CW.condd_f rfl (by omega) ?_ | refine CW.ret ?_ | refine CW.exit ?_) | (show Post _ _ _ _ _; first | refine Post.seq ?_ | refine Post.seq_exit ?_ | refine Post.hit ?_ | refine Post.again_exit ?_) | refine SW.nil ?_ | refine SW.pure rfl rfl ?_ | (show SW _ _ _ _ (⟨_, Op.fieldAddr _ _ _, _, _, _, none⟩ :: _) _ _; refine SW.st (st_field rfl) rfl ?_) | (show SW _ _ _ _ (⟨_, Op.call ⟨.builtin .len, _, _⟩, _, _, _, none⟩ :: _) _ _; refine SW.st (st_len rfl) rfl ?_) | (show SW _ _ _ _ (⟨_, Op.load _ _, _, _, _, none⟩ :: _) _ _; refine SW.st (st_load rfl (hb1.cell rfl)) rfl ?_))
     refine Post.ret1 rfl rfl ⟨_, rfl, hw, ?_⟩
     rw [zoneB_t ⟨by rw [← eF, ← eT]; exact hok, hl8, hty, fun i h => hI i h (by omega), fun i h => hN i h (by omega)⟩]
  ·repeat' (refine SW.pure rfl rfl ?_)
   refine SW.alloc rfl fun b3 w1 hw1 hb3b hb3 => ?_
   have hb3w : w.heap.size ≤ b3 := Nat.le_trans hw.size hb3b
   have hne_b1 : b1 ≠ b3 := by have := hb1.lt; omega
   replace hw := Ext.trans hw hw1
   replace hb1 := hb1.ext hw1
   replace hs := hs.ext hw1
   refine SW.storeAgg hb3 rfl rfl rfl rfl (one_z _) fun w2 hb3' hg => ?_
   replace hw := hw.own hb3w hg
   replace hs := hs.blk hb3 hg rfl rfl
   replace hb1 := hb1.grown hg (by simpa using hne_b1)
   replace hb3 := hb3'
   clear hb3' hw1 hg hb3b
   repeat' (first | (show CW _ _ _ _ _ _; first | refine CW.seq ?_ | refine CW.region ?_ | refine CW.condn_t rfl (by omega) ?_ | refine CW.ret ?_) | (show Post _ _ _ _ _; first | refine Post.seq ?_ | refine Post.seq_ret ?_) | refine SW.nil ?_ | (show SW _ _ _ _ (⟨_, _, _, _, _, some _⟩ :: _) _ _; first | refine SW.want_f rfl rfl (by with_reducible rfl) ?_ | refine SW.splitn_f rfl rfl rfl (by omega) ?_) | refine SW.pure rfl rfl ?_ | (show SW _ _ _ _ (⟨_, Op.fieldAddr _ _ _, _, _, _, none⟩ :: _) _ _; refine SW.st (st_field rfl) rfl ?_) | (show SW _ _ _ _ (⟨_, Op.binOp _ _ _ _ _, _, _, _, none⟩ :: _) _ _; first | refine SW.st (st_sub rfl rfl (by omega) (by omega)) rfl ?_ | refine SW.st (st_mul rfl rfl (by omega) (by omega)) rfl ?_) | (show SW _ _ _ _ (⟨_, Op.call ⟨.builtin .len, _, _⟩, _, _, _, none⟩ :: _) _ _; refine SW.st (st_len rfl) rfl ?_) | (show SW _ _ _ _ (⟨_, Op.load _ _, _, _, _, none⟩ :: _) _ _; refine SW.st (st_load rfl (hb1.cell rfl)) rfl ?_))
   refine Post.ret1 rfl rfl ⟨_, rfl, hw, ?_⟩
   rw [zoneB_f (fun h => hl8 h.len)]
 ·rw [zoneNewV_f hok] at hv
  obtain ⟨s, rfl, hs⟩ := hv
  repeat' (refine SW.pure rfl rfl ?_)
  refine SW.alloc rfl fun b3 w1 hw1 hb3b hb3 => ?_
  have hb3w : w.heap.size ≤ b3 := Nat.le_trans hw.size hb3b
  have hne_b1 : b1 ≠ b3 := by have := hb1.lt; omega
  replace hw := Ext.trans hw hw1
  replace hb1 := hb1.ext hw1
  replace hs := hs.ext hw1
  refine SW.storeAgg hb3 rfl rfl rfl rfl (one_z _) fun w2 hb3' hg => ?_
  replace hw := hw.own hb3w hg
  replace hs := hs.blk hb3 hg rfl rfl
  replace hb1 := hb1.grown hg (by simpa using hne_b1)
  replace hb3 := hb3'
  clear hb3' hw1 hg hb3b
  repeat' (first | (show CW _ _ _ _ _ _; first | refine CW.seq ?_ | refine CW.region ?_ | refine CW.condtr rfl (by with_reducible rfl) ?_ | refine CW.ret ?_) | (show Post _ _ _ _ _; first | refine Post.seq ?_ | refine Post.seq_ret ?_) | refine SW.nil ?_ | (show SW _ _ _ _ (⟨_, _, _, _, _, some _⟩ :: _) _ _; first | refine SW.skip_f rfl rfl (by with_reducible rfl) rfl ?_ | refine SW.splitn_t rfl rfl rfl (by omega) ?_) | refine SW.pure rfl rfl ?_)
  refine Post.ret1 rfl rfl ⟨_, rfl, hw, ?_⟩
  rw [zoneB_f (fun h => hok (by rw [eF, eT]; exact h.ok))]
end Go.Proofs.YtfommgdbahemfaaDoor
set_option linter.unusedVariables false
namespace Go.Proofs.YtfommgdbahemfaaDoor
def isB (a o : Int) (b : Block) : Bool := decide (b.At = a) && decide (b.Order = o)
def without (l : List Block) (a o : Int) : List Block := l.filter fun b => !isB a o b
def joinL : Nat → List Block → Int → Int → List Block × Int × Int
 | 0, l, a, o => (l, a, o)
 | f + 1, l, a, o => if o < 4 then (if l.any (isB (beside a o) o) then joinL f (without l (beside a o) o) (min a (beside a o)) (o + 1) else (l, a, o)) else (l, a, o)
def lbOf (l : List Block) (a : Int) : Nat := l.findIdx fun b => decide (a ≤ b.At)
def insAt {α : Type} (l : List α) (i : Nat) (b : α) : List α := l.take i ++ [b] ++ l.drop i
def overB (l : List Block) (a o : Int) : Bool := l.any fun x => decide (x.At < a + pw o) && decide (a < x.At + pw x.Order)
def ups (l : List Block) : Prop := l.Pairwise fun x y => x.At + pw x.Order ≤ y.At
structure JOk (f t : Int) (l : List Block) (a o : Int) : Prop where
 ups : ups l
 blk : ∀ b ∈ l, blkOk f t b
 fit : fitsZ f t a o
 dis : ∀ b ∈ l, b.At + pw b.Order ≤ a ∨ a + pw o ≤ b.At
theorem ups_get {l : List Block} (h : ups l) {i j : Nat} (hj : j < l.length) (hij : i < j) : (l[i]'(by omega)).At + pw (l[i]'(by omega)).Order ≤ l[j].At := by
 unfold ups at h
 rw [List.pairwise_iff_getElem] at h
 exact h i j (by omega) hj hij
theorem zone_ups {z : Zone} (h : ZoneMay z) : ups z.Free := by
 have key : ∀ (d i : Nat) (hj : i + d + 1 < z.Free.length), (z.Free[i]'(by omega)).At + pw (z.Free[i]'(by omega)).Order ≤ z.Free[i + d + 1].At := by
  intro d
  induction d with
  | zero => intro i hj; exact (h.next i hj).1
  | succ d ih =>
   intro i hj
   have h1 := ih i (by omega)
   have h2 := (h.next (i + d + 1) (by omega)).1
   have hb := (h.blk (i + d + 1) (by omega)).1
   have := pw_le hb.1 hb.2.1
   have e : z.Free[i + (d + 1) + 1] = z.Free[i + d + 1 + 1]'(by omega) := rfl
   rw [e]
   omega
 unfold ups
 rw [List.pairwise_iff_getElem]
 intro i j hi hj hij
 have := key (j - i - 1) i (by omega)
 have e : i + (j - i - 1) + 1 = j := by omega
 simp only [e] at this
 exact this
theorem ups_uniq {f t : Int} {l : List Block} (h : ups l) (hb : ∀ b ∈ l, blkOk f t b) {x y : Block} (hx : x ∈ l) (hy : y ∈ l) : x = y ∨ x.At + pw x.Order ≤ y.At ∨ y.At + pw y.Order ≤ x.At := by
 obtain ⟨i, hi, rfl⟩ := List.getElem_of_mem hx
 obtain ⟨j, hj, rfl⟩ := List.getElem_of_mem hy
 rcases Nat.lt_trichotomy i j with h1 | h1 | h1
 ·exact .inr (.inl (ups_get h hj h1))
 ·subst h1; exact .inl rfl
 ·exact .inr (.inr (ups_get h hi h1))
theorem ups_at {f t : Int} {l : List Block} (h : ups l) (hb : ∀ b ∈ l, blkOk f t b) {i j : Nat} (hi : i < l.length) (hj : j < l.length) (e : l[i].At = l[j].At) : i = j := by
 have p1 := hb _ (List.getElem_mem hi)
 have p2 := hb _ (List.getElem_mem hj)
 have q1 := pw_le p1.1.1 p1.1.2.1
 have q2 := pw_le p2.1.1 p2.1.2.1
 rcases Nat.lt_trichotomy i j with h1 | h1 | h1
 ·have := ups_get h hj h1; omega
 ·exact h1
 ·have := ups_get h hi h1; omega
theorem beside_fit {a o : Int} (h : 0 ≤ a) (h0 : 0 ≤ o) (h4 : o < 4) (hm : a % pw o = 0) : (min a (beside a o)) % pw (o + 1) = 0 ∧ (beside a o = a + pw o ∨ beside a o = a - pw o) ∧ (beside a o) % pw o = 0 := by
 rw [pw_succ h0 (by omega)]
 unfold beside
 have hp := pw_cases h0 (show o ≤ 4 by omega)
 generalize pw o = q at *
 rcases hp with ⟨e, rfl⟩ | ⟨e, rfl⟩ | ⟨e, rfl⟩ | ⟨e, rfl⟩ | ⟨e, rfl⟩ <;> split <;> omega
theorem isB_iff {a o : Int} {b : Block} : isB a o b = true ↔ b.At = a ∧ b.Order = o := by simp [isB]
theorem JOk.step {f t : Int} {l : List Block} {a o : Int} (h : JOk f t l a o) (h0 : 0 ≤ f) (ho : o < 4) (hany : l.any (isB (beside a o) o) = true) : JOk f t (without l (beside a o) o) (min a (beside a o)) (o + 1) := by
 obtain ⟨b, hb, hi⟩ := List.any_eq_true.1 hany
 obtain ⟨e1, e2⟩ := isB_iff.1 hi
 obtain ⟨f1, f2, f3, f4, f5⟩ := h.fit
 obtain ⟨g1, g2, g3, g4, g5⟩ := (h.blk b hb).1
 obtain ⟨k1, k2, k3⟩ := beside_fit (by omega) f1 ho f5
 have hp := pw_succ f1 f2
 have hp1 := pw_le f1 f2
 refine ⟨h.ups.sublist List.filter_sublist, fun x hx => h.blk x ((List.mem_filter.1 hx).1), ⟨by omega, by omega, by omega, by omega, k1⟩, fun x hx => ?_⟩
 have hx1 := (List.mem_filter.1 hx).1
 have hx2 : isB (beside a o) o x = false := by
  have := (List.mem_filter.1 hx).2
  simpa using this
 have hd := h.dis x hx1
 have hxp := pw_le (h.blk x hx1).1.1 (h.blk x hx1).1.2.1
 rcases ups_uniq h.ups h.blk hb hx1 with e | e | e
 ·subst e; rw [hi] at hx2; cases hx2
 ·rw [hp]; rw [e2] at e; omega
 ·rw [hp]; omega
theorem lb_spec {l : List Block} {a : Int} {i : Nat} (hi : i ≤ l.length) (h1 : ∀ (k : Nat) (h : k < l.length), k < i → l[k].At < a) (h2 : ∀ h : i < l.length, a ≤ l[i].At) : lbOf l a = i := by
 unfold lbOf
 by_cases h : i < l.length
 ·exact (List.findIdx_eq h).2 ⟨by simpa using h2 h, fun j hj => by simpa using h1 j (by omega) hj⟩
 ·have e : i = l.length := by omega
  subst e
  rw [List.findIdx_eq_length]
  intro x hx
  obtain ⟨k, hk, rfl⟩ := List.getElem_of_mem hx
  simpa using h1 k hk hk
theorem lb_le (l : List Block) (a : Int) : lbOf l a ≤ l.length := List.findIdx_le_length
theorem lb_below {l : List Block} {a : Int} {k : Nat} (hk : k < lbOf l a) : (l[k]'(Nat.lt_of_lt_of_le hk (lb_le l a))).At < a := by
 have := List.not_of_lt_findIdx hk
 simpa using this
theorem lb_at {l : List Block} {a : Int} (h : lbOf l a < l.length) : a ≤ (l[lbOf l a]).At := by
 have := List.findIdx_getElem (w := h)
 exact of_decide_eq_true this
def foundB (l : List Block) (a o : Int) : Bool := if h : lbOf l a < l.length then decide ((l[lbOf l a]).At = a ∧ (l[lbOf l a]).Order = o) else false
theorem found_any {f t : Int} {l : List Block} (hu : ups l) (hb : ∀ b ∈ l, blkOk f t b) (a o : Int) : l.any (isB a o) = foundB l a o := by
 unfold foundB
 by_cases h : lbOf l a < l.length
 ·rw [dif_pos h]
  by_cases hh : (l[lbOf l a]).At = a ∧ (l[lbOf l a]).Order = o
  ·rw [decide_eq_true hh]
   exact List.any_eq_true.2 ⟨_, List.getElem_mem h, isB_iff.2 hh⟩
  ·rw [decide_eq_false hh, List.any_eq_false]
   intro x hx hi
   obtain ⟨e1, e2⟩ := isB_iff.1 hi
   obtain ⟨j, hj, rfl⟩ := List.getElem_of_mem hx
   have h1 := lb_at h
   rcases Nat.lt_trichotomy j (lbOf l a) with hlt | hlt | hlt
   ·have := lb_below hlt; omega
   ·subst hlt; exact hh ⟨e1, e2⟩
   ·have := ups_get hu hj hlt
    have hp := hb _ (List.getElem_mem h)
    have := pw_le hp.1.1 hp.1.2.1
    omega
 ·rw [dif_neg h, List.any_eq_false]
  intro x hx hi
  obtain ⟨e1, e2⟩ := isB_iff.1 hi
  obtain ⟨j, hj, rfl⟩ := List.getElem_of_mem hx
  have := lb_below (show j < lbOf l a by omega)
  omega
theorem erase_without {f t : Int} {l : List Block} (hu : ups l) (hb : ∀ b ∈ l, blkOk f t b) {a o : Int} {i : Nat} (hi : i < l.length) (h1 : l[i].At = a) (h2 : l[i].Order = o) : l.eraseIdx i = without l a o := by
 have hne : ∀ (j : Nat) (hj : j < l.length), j ≠ i → isB a o l[j] = false := fun j hj hji => by
  cases hh : isB a o l[j] with
  | false => rfl
  | true =>
   obtain ⟨e1, e2⟩ := isB_iff.1 hh
   exact absurd (ups_at hu hb hj hi (by omega)) hji
 have e : l = l.take i ++ l[i] :: l.drop (i + 1) := by simp
 have hL : ∀ x ∈ l.take i, isB a o x = false := fun x hx => by
  obtain ⟨j, hj, rfl⟩ := List.getElem_of_mem hx
  simp at hj
  rw [List.getElem_take]
  exact hne j (by omega) (by omega)
 have hR : ∀ x ∈ l.drop (i + 1), isB a o x = false := fun x hx => by
  obtain ⟨j, hj, rfl⟩ := List.getElem_of_mem hx
  simp at hj
  rw [List.getElem_drop]
  exact hne _ (by omega) (by omega)
 have hm : isB a o l[i] = true := isB_iff.2 ⟨h1, h2⟩
 unfold without
 rw [List.eraseIdx_eq_take_drop_succ]
 conv => rhs; rw [e]
 rw [List.filter_append, List.filter_cons]
 simp only [hm, Bool.not_true, Bool.false_eq_true, if_false]
 rw [List.filter_eq_self.2 (fun x hx => by simp [hL x hx]), List.filter_eq_self.2 (fun x hx => by simp [hR x hx])]
noncomputable def backV (z : Zone) (a o : Int) : Int × Zone :=
 if zoneB z then (if fitsZ z.From z.To a o then (if overB z.Free a o then (5, ⟨0, 0, [], []⟩) else
  (0, ⟨z.From, z.To, insAt (joinL 5 z.Free a o).1 (lbOf (joinL 5 z.Free a o).1 (joinL 5 z.Free a o).2.1) ⟨(joinL 5 z.Free a o).2.1, (joinL 5 z.Free a o).2.2, z.Types.getD (((joinL 5 z.Free a o).2.1 - z.From) / 8).toNat 0⟩, z.Types⟩)) else (1, ⟨0, 0, [], []⟩)) else (8, ⟨0, 0, [], []⟩)
theorem over_dis {f t : Int} {z : Zone} {a o : Int} (hz : ZoneMay z) (hf : fitsZ z.From z.To a o) (h : overB z.Free a o = false) : JOk z.From z.To z.Free a o := by
 refine ⟨zone_ups hz, fun b hb => ?_, hf, fun b hb => ?_⟩
 ·obtain ⟨i, hi, rfl⟩ := List.getElem_of_mem hb
  exact hz.blk i hi
 ·unfold overB at h
  rw [List.any_eq_false] at h
  have := h b hb
  simp at this
  omega
end Go.Proofs.YtfommgdbahemfaaDoor
set_option linter.unusedVariables false
namespace Go.Proofs.YtfommgdbahemfaaDoor
open Go.RowKit
theorem overlaps_ans (A : Option Addr) (n c : Nat) (l : List Block) (f t a o : Int) (w : World) (hl : Sl w 3 encBk A n l) (hb : ∀ b ∈ l, blkOk f t b) (h0 : 0 ≤ f) (ht : t ≤ 256) (hn : n ≤ 1000000000000000000) (ha : -1000 ≤ a ∧ a ≤ 1000) (ho : 0 ≤ o ∧ o ≤ 4) :
  Ans Tryd.prog 95 [.slice A n c, .int .i64 a, .int .i64 o] w fun v _ => v = .bool (overB l a o) := by
 refine ans_of Tryd.func95 rfl Tryd.ntmps95 rfl ?_
 have hw := Ext.refl w
 have hA := hl.base
 have hll := hl.len
 have hp := pw_le ho.1 ho.2
 repeat' (first | (show CW _ _ _ _ _ _; first | refine CW.seq ?_ | refine CW.region ?_ | refine CW.block ?_) | (show Post _ _ _ _ _; refine Post.seq ?_) | refine SW.nil ?_ | refine SW.pure rfl rfl ?_)
 refine CW.loop (fun k : Nat => [(0, .slice A n c), (1, .int .i64 a), (2, .int .i64 o), (7, .int .i64 (k : Int))]) (fun k w' => k ≤ n ∧ Ext w w' ∧ ∀ (j : Nat) (h : j < l.length), j < k → ¬ (l[j].At < a + pw o ∧ a < l[j].At + pw l[j].Order)) (fun k => n - k) 0 ⟨rfl, rfl, rfl, rfl, trivial⟩ ⟨by omega, hw, fun j _ h => by omega⟩ ?_
 clear hw
 rintro k w' ⟨hk, hw, hI⟩
 by_cases hkn : k < n
 ·have hkl := hl.lt hkn
  have hbk := (hb _ (List.getElem_mem hkl)).1
  obtain ⟨f1, f2, f3, f4, f5⟩ := id hbk
  have hp1 := pw_le f1 f2
  by_cases h1 : l[k].At < a + pw o
  ·by_cases h2 : a < l[k].At + pw l[k].Order
   ·repeat' (first | (show CW _ _ _ _ _ _; first | refine CW.seq ?_ | refine CW.region ?_ | refine CW.block ?_ | refine CW.condd_t rfl (by omega) ?_ | refine CW.skip ?_ | refine CW.ret ?_ | (apply CW.quiet1 mixed; (· kernel_rfl); rotate_left; intro w1 hw1; replace hw := Ext.trans hw hw1; clear hw1; rotate_right)) | (show Post _ _ _ _ _; first | refine Post.seq ?_ | refine Post.seq_ret ?_ | refine Post.blk_ret ?_ | refine Post.again_ret ?_) | refine SW.nil ?_ | (show SW _ _ _ _ (⟨_, _, _, _, _, some _⟩ :: _) _ _; first | refine SW.want_t rfl rfl (by with_reducible rfl) ?_ | refine SW.splitd_t rfl rfl rfl (by omega) ?_) | refine SW.pure rfl rfl ?_ | (show SW _ _ _ _ (⟨_, Op.fieldAddr _ _ _, _, _, _, none⟩ :: _) _ _; refine SW.st (st_field rfl) rfl ?_) | (show SW _ _ _ _ (⟨_, Op.binOp _ _ _ _ _, _, _, _, none⟩ :: _) _ _; refine SW.st (st_add rfl rfl (by omega) (by omega)) rfl ?_) | (show SW _ _ _ _ (⟨_, Op.indexAddr _ _ _, _, _, _, none⟩ :: _) _ _; refine SW.st (st_indexN rfl rfl (by assumption) (by omega)) rfl ?_) | (show SW _ _ _ _ (⟨_, Op.call ⟨.builtin .len, _, _⟩, _, _, _, none⟩ :: _) _ _; refine SW.st (st_len rfl) rfl ?_) | (show SW _ _ _ _ (⟨_, Op.load _ _, _, _, _, none⟩ :: _) _ _; refine SW.st (st_loadx hw rfl (hl.fld hkn rfl)) rfl ?_) | (show SW _ _ _ _ (⟨_, Op.call ⟨.value (.func _), _, _⟩, _, _, _, none⟩ :: _) _ _; refine SW.qcall rfl rfl (fun w1 hw1 => (power_ans _ (by omega) _)) ?_) | exact SW.qnil rfl)
    refine Post.ret1 rfl rfl ⟨_, rfl, hw, ?_⟩
    have : overB l a o = true := List.any_eq_true.2 ⟨l[k], List.getElem_mem hkl, by simp [h1, h2]⟩
    rw [this]
   ·repeat' (first | (show CW _ _ _ _ _ _; first | refine CW.seq ?_ | refine CW.region ?_ | refine CW.block ?_ | refine CW.condd_t rfl (by omega) ?_ | refine CW.condd_f rfl (by omega) ?_ | refine CW.skip ?_ | (apply CW.quiet1 mixed; (· kernel_rfl); rotate_left; intro w1 hw1; replace hw := Ext.trans hw hw1; clear hw1; rotate_right)) | (show Post _ _ _ _ _; first | refine Post.seq ?_ | refine Post.blk ?_) | refine SW.nil ?_ | (show SW _ _ _ _ (⟨_, _, _, _, _, some _⟩ :: _) _ _; first | refine SW.want_t rfl rfl (by with_reducible rfl) ?_ | refine SW.splitd_t rfl rfl rfl (by omega) ?_) | refine SW.pure rfl rfl ?_ | (show SW _ _ _ _ (⟨_, Op.fieldAddr _ _ _, _, _, _, none⟩ :: _) _ _; refine SW.st (st_field rfl) rfl ?_) | (show SW _ _ _ _ (⟨_, Op.binOp _ _ _ _ _, _, _, _, none⟩ :: _) _ _; refine SW.st (st_add rfl rfl (by omega) (by omega)) rfl ?_) | (show SW _ _ _ _ (⟨_, Op.indexAddr _ _ _, _, _, _, none⟩ :: _) _ _; refine SW.st (st_indexN rfl rfl (by assumption) (by omega)) rfl ?_) | (show SW _ _ _ _ (⟨_, Op.call ⟨.builtin .len, _, _⟩, _, _, _, none⟩ :: _) _ _; refine SW.st (st_len rfl) rfl ?_) | (show SW _ _ _ _ (⟨_, Op.load _ _, _, _, _, none⟩ :: _) _ _; refine SW.st (st_loadx hw rfl (hl.fld hkn rfl)) rfl ?_) | (show SW _ _ _ _ (⟨_, Op.call ⟨.value (.func _), _, _⟩, _, _, _, none⟩ :: _) _ _; refine SW.qcall rfl rfl (fun w1 hw1 => (power_ans _ (by omega) _)) ?_) | exact SW.qnil rfl)
    refine Post.again (k + 1) ⟨rfl, rfl, rfl, rfl, trivial⟩ (by omega) ⟨by omega, hw, fun j hj h => ?_⟩
    by_cases e : j = k
    ·subst e; exact fun h => h2 h.2
    ·exact hI j hj (by omega)
  ·repeat' (first | (show CW _ _ _ _ _ _; first | refine CW.seq ?_ | refine CW.region ?_ | refine CW.block ?_ | refine CW.condfr rfl (by with_reducible rfl) ?_ | refine CW.condd_t rfl (by omega) ?_ | refine CW.skip ?_ | (apply CW.quiet1 mixed; (· kernel_rfl); rotate_left; intro w1 hw1; replace hw := Ext.trans hw hw1; clear hw1; rotate_right)) | (show Post _ _ _ _ _; first | refine Post.seq ?_ | refine Post.blk ?_) | refine SW.nil ?_ | (show SW _ _ _ _ (⟨_, _, _, _, _, some _⟩ :: _) _ _; first | refine SW.skip_t rfl rfl (by with_reducible rfl) rfl ?_ | refine SW.splitd_f rfl rfl rfl (by omega) ?_) | refine SW.pure rfl rfl ?_ | (show SW _ _ _ _ (⟨_, Op.fieldAddr _ _ _, _, _, _, none⟩ :: _) _ _; refine SW.st (st_field rfl) rfl ?_) | (show SW _ _ _ _ (⟨_, Op.binOp _ _ _ _ _, _, _, _, none⟩ :: _) _ _; refine SW.st (st_add rfl rfl (by omega) (by omega)) rfl ?_) | (show SW _ _ _ _ (⟨_, Op.indexAddr _ _ _, _, _, _, none⟩ :: _) _ _; refine SW.st (st_indexN rfl rfl (by assumption) (by omega)) rfl ?_) | (show SW _ _ _ _ (⟨_, Op.call ⟨.builtin .len, _, _⟩, _, _, _, none⟩ :: _) _ _; refine SW.st (st_len rfl) rfl ?_) | (show SW _ _ _ _ (⟨_, Op.load _ _, _, _, _, none⟩ :: _) _ _; refine SW.st (st_loadx hw rfl (hl.fld hkn rfl)) rfl ?_) | (show SW _ _ _ _ (⟨_, Op.call ⟨.value (.func _), _, _⟩, _, _, _, none⟩ :: _) _ _; refine SW.qcall rfl rfl (fun w1 hw1 => (power_ans _ (by omega) _)) ?_) | exact SW.qnil rfl)
   refine Post.again (k + 1) ⟨rfl, rfl, rfl, rfl, trivial⟩ (by omega) ⟨by omega, hw, fun j hj h => ?_⟩
   by_cases e : j = k
   ·subst e; exact fun h => h1 h.1
   ·exact hI j hj (by omega)
 ·repeat' (first | (show CW _ _ _ _ _ _; first | refine CW.seq ?_ | refine CW.region ?_ | refine CW.condd_f rfl (by omega) ?_ | refine CW.ret ?_ | refine CW.exit ?_) | (show Post _ _ _ _ _; first | refine Post.seq ?_ | refine Post.seq_exit ?_ | refine Post.hit ?_ | refine Post.again_exit ?_) | refine SW.nil ?_ | refine SW.pure rfl rfl ?_ | (show SW _ _ _ _ (⟨_, Op.call ⟨.builtin .len, _, _⟩, _, _, _, none⟩ :: _) _ _; refine SW.st (st_len rfl) rfl ?_))
  refine Post.ret1 rfl rfl ⟨_, rfl, hw, ?_⟩
  have : overB l a o = false := by
   unfold overB
   rw [List.any_eq_false]
   intro x hx
   obtain ⟨j, hj, rfl⟩ := List.getElem_of_mem hx
   have := hI j hj (by omega)
   simpa using this
  rw [this]
end Go.Proofs.YtfommgdbahemfaaDoor
set_option linter.unusedVariables false
namespace Go.Proofs.YtfommgdbahemfaaDoor
open Go.RowKit
section
variable {P : Program} {n : Nat} {Q : Exit → Act → World → Prop} {L : Env} {w : World}
def CutQ (n : Nat) (K : Env → World → Prop) (Q : Exit → Act → World → Prop) : Exit → Act → World → Prop
 | .normal, a, w' => ∃ L', Fit n a L' ∧ K L' w'
 | e, a, w' => Q e a w'
theorem CW.cutb {c : Code} {id : Nat} (K : Env → World → Prop) (h : CW P n c (Exit.inBlock id (CutQ n K Q)) L w) (k : ∀ L' w', K L' w' → Post n Q .normal L' w') : CW P n c (Exit.inBlock id Q) L w :=
 ⟨fun a ha => wp_mono (h.out a ha) fun e a' w' h' => by
  cases e with
  | normal => obtain ⟨L', hf, hk⟩ := h'; exact (k L' w' hk).out a' hf
  | exit j =>
   simp only [Exit.inBlock] at h' ⊢
   split
   ·rename_i hj
    rw [if_pos hj] at h'
    obtain ⟨L', hf, hk⟩ := h'
    exact (k L' w' hk).out a' hf
   ·rename_i hj
    rw [if_neg hj] at h'
    exact h'
  | _ => exact h'⟩
theorem Post.cutn {K : Env → World → Prop} (h : K L w) : Post n (CutQ n K Q) .normal L w := ⟨fun _ ha => ⟨L, ha, h⟩⟩
end
end Go.Proofs.YtfommgdbahemfaaDoor
