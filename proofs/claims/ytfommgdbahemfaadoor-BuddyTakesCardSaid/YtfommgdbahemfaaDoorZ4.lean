/-
  Contracts: buddy.Check and its reference; the law BuddyChecks.
-/
import Derived.Test.YtfommgdbahemfaaDoorZ3
set_option linter.unusedVariables false
namespace Go.Proofs.YtfommgdbahemfaaDoor
open Go.RowKit

def oddB (t : Int) : Bool := !decide (tyOk t)
theorem oddB_f {t : Int} (h : tyOk t) : oddB t = false := by simp [oddB, h]
theorem oddB_t {t : Int} (h : ¬ tyOk t) : oddB t = true := by simp [oddB, h]
theorem Zodd_ans (t : Int) (w : World) : Ans Tryd.prog 53 ([.int .i64 t] ++ []) w fun v _ => v = .bool (oddB t) := by
  refine ans_of Tryd.func53 rfl Tryd.ntmps53 rfl ?_
  have hw := Ext.refl w
  by_cases h1 : 0 ≤ t
  · by_cases h2 : t ≤ 2
    · rw [oddB_f ⟨h1, h2⟩]
      repeat' (first | (show CW _ _ _ _ _ _; first | refine CW.seq ?_ | refine CW.region ?_ | refine CW.ret ?_) | (show Post _ _ _ _ _; refine Post.seq ?_) | refine SW.nil ?_ | (show SW _ _ _ _ (⟨_, _, _, _, _, some _⟩ :: _) _ _; first | refine SW.want_f rfl rfl (by with_reducible rfl) ?_ | refine SW.splitd_f rfl rfl rfl (by omega) ?_) | refine SW.pure rfl rfl ?_)
      all_goals exact Post.ret1 rfl rfl ⟨_, rfl, hw, by simp; try omega⟩
    · rw [oddB_t (fun h => h2 h.2)]
      repeat' (first | (show CW _ _ _ _ _ _; first | refine CW.seq ?_ | refine CW.region ?_ | refine CW.ret ?_) | (show Post _ _ _ _ _; refine Post.seq ?_) | refine SW.nil ?_ | (show SW _ _ _ _ (⟨_, _, _, _, _, some _⟩ :: _) _ _; first | refine SW.want_f rfl rfl (by with_reducible rfl) ?_ | refine SW.splitd_f rfl rfl rfl (by omega) ?_) | refine SW.pure rfl rfl ?_)
      all_goals exact Post.ret1 rfl rfl ⟨_, rfl, hw, by simp; try omega⟩
  · rw [oddB_t (fun h => h1 h.1)]
    repeat' (first | (show CW _ _ _ _ _ _; first | refine CW.seq ?_ | refine CW.region ?_ | refine CW.ret ?_) | (show Post _ _ _ _ _; refine Post.seq ?_) | refine SW.nil ?_ | (show SW _ _ _ _ (⟨_, _, _, _, _, some _⟩ :: _) _ _; first | refine SW.skip_f rfl rfl (by with_reducible rfl) rfl ?_ | refine SW.splitd_t rfl rfl rfl (by omega) ?_) | refine SW.pure rfl rfl ?_)
    all_goals exact Post.ret1 rfl rfl ⟨_, rfl, hw, by simp; try omega⟩

set_option maxHeartbeats 4000000 in
theorem Zcheck_ans (r : ZRow) (z : Zone) (w : World) (hr : RdZ w r z) (hf : r.Free.n ≤ 2305843009213693952) (ht : r.Types.n ≤ 2305843009213693952) (h1 : -9223372036854775808 ≤ r.From ∧ r.From ≤ 9223372036854775807) (h2 : -9223372036854775808 ≤ r.To ∧ r.To ≤ 9223372036854775807) :
    Ans Tryd.prog 18 [.agg (encZ r).toArray] w fun v _ => v = .int .i64 (if zoneB z then 0 else 8) := by
  refine ans_of Tryd.func18 rfl Tryd.ntmps18 rfl ?_
  refine CW.seq (CW.region (SW.box rfl rfl fun b1 w1 hw hb1b hb1 => ?_))
  have eF := hr.from_
  have eT := hr.to_
  have hFl := hr.free.len
  have hTl := hr.types.len
  repeat' (first | (show CW _ _ _ _ _ _; first | refine CW.seq ?_ | refine CW.region ?_) | (show Post _ _ _ _ _; refine Post.seq ?_) | refine SW.nil ?_ | refine SW.pure rfl rfl ?_ | (show SW _ _ _ _ (⟨_, Op.fieldAddr _ _ _, _, _, _, none⟩ :: _) _ _; refine SW.st (st_field rfl) rfl ?_) | (show SW _ _ _ _ (⟨_, Op.load _ _, _, _, _, none⟩ :: _) _ _; refine SW.st (st_load rfl (hb1.cell rfl)) rfl ?_))
  refine SW.call rfl rfl (Znew_ans r.From r.To _ h1 h2) fun v w2 hw2 hv => ?_
  (replace hw := Ext.trans hw hw2; replace hb1 := hb1.ext hw2)
  by_cases hok : zoneOk r.From r.To
  · rw [zoneNewV_t hok] at hv
    obtain ⟨s, rfl, hs⟩ := hv
    obtain ⟨o1, o2, o3, o4, o5⟩ := id hok
    have hno : ∀ {p : Prop}, (ZoneMay z → False) → p ∨ ¬ ZoneMay z := fun h => .inr h
    by_cases hl8 : 8 * (z.Types.length : Int) = z.To - z.From
    · repeat' (refine SW.pure rfl rfl ?_)
      refine SW.alloc rfl fun b3 w1 hw1 hb3b hb3 => ?_
      have hb3w : w.heap.size ≤ b3 := Nat.le_trans hw.size hb3b
      have hne_b1 : b1 ≠ b3 := by have := hb1.lt; omega
      replace hw := Ext.trans hw hw1
      replace hb1 := hb1.ext hw1
      replace hs := hs.ext hw1
      refine SW.storeAgg hb3 rfl rfl rfl rfl (one_z _) fun w2 hb3' hg => ?_
      replace hw := hw.own hb3w hg
      replace hs := hs.blk hb3 hg rfl rfl
      replace hb1 := hb1.grown hg (by simpa using hne_b1)
      replace hb3 := hb3'
      clear hb3' hw1 hg hb3b
      have cO : ∀ w', Ext w w' → Ans Tryd.prog 54 [.slice r.Types.A r.Types.n r.Types.c, .func (.func 53) #[] ([] : List Value).toArray] w' fun v _ => v = .bool (z.Types.any oddB) := fun w' h =>
        ContainsFuncInt_ans _ _ _ _ _ (hr.types.ext h) _ [] oddB (fun x => .int .i64 x) (fun x => rfl) (fun x _ w1 _ => Zodd_ans x w1) (by omega)
      cases hodd : z.Types.any oddB
      · rw [hodd] at cO
        have hty : ∀ t ∈ z.Types, tyOk t := fun t htt => by
          rw [List.any_eq_false] at hodd
          have := hodd t htt
          simp [oddB] at this
          exact this
        repeat' (first | (show CW _ _ _ _ _ _; first | refine CW.seq ?_ | refine CW.region ?_ | refine CW.block ?_ | refine CW.condfr rfl (by with_reducible rfl) ?_ | refine CW.condn_f rfl (by omega) ?_ | refine CW.skip ?_) | (show Post _ _ _ _ _; refine Post.seq ?_) | refine SW.nil ?_ | (show SW _ _ _ _ (⟨_, _, _, _, _, some _⟩ :: _) _ _; first | refine SW.want_f rfl rfl (by with_reducible rfl) ?_ | refine SW.splitn_f rfl rfl rfl (by omega) ?_) | refine SW.pure rfl rfl ?_ | (show SW _ _ _ _ (⟨_, Op.fieldAddr _ _ _, _, _, _, none⟩ :: _) _ _; refine SW.st (st_field rfl) rfl ?_) | (show SW _ _ _ _ (⟨_, Op.binOp _ _ _ _ _, _, _, _, none⟩ :: _) _ _; first | refine SW.st (st_sub rfl rfl (by omega) (by omega)) rfl ?_ | refine SW.st (st_quo rfl rfl (by omega) (by omega) (by omega)) rfl ?_) | (show SW _ _ _ _ (⟨_, Op.call ⟨.builtin .len, _, _⟩, _, _, _, none⟩ :: _) _ _; refine SW.st (st_len rfl) rfl ?_) | (show SW _ _ _ _ (⟨_, Op.load _ _, _, _, _, none⟩ :: _) _ _; refine SW.st (st_load rfl (hb1.cell rfl)) rfl ?_) | (show SW _ _ _ _ (⟨_, Op.call ⟨.value (.func _), _, _⟩, _, _, _, none⟩ :: _) _ _; (refine SW.call rfl rfl (cO _ hw) ?_; intro v w1 hw1 hv; subst hv; replace hw := Ext.trans hw hw1; replace hb1 := hb1.ext hw1; clear hw1)))
        refine CW.loop (fun k : Nat => [(1, .pointer (some ⟨b1, 0, none⟩)), (5, .func (.func 53) #[] #[]), (35, .slice r.Free.A r.Free.n r.Free.c), (36, .int .i64 (r.Free.n : Int)), (37, .int .i64 (k : Int))])
          (fun k w' => k ≤ r.Free.n ∧ Ext w w' ∧ Blk w' b1 25 (encZ r) ∧ (∀ (i : Nat) (h : i < z.Free.length), i < k → blkOk z.From z.To z.Free[i]) ∧ (∀ (i : Nat) (h : i + 1 < z.Free.length), i + 1 < k → nextOk z.Free[i] z.Free[i + 1]))
          (fun k => r.Free.n - k) 0 ⟨rfl, rfl, rfl, rfl, rfl, trivial⟩ ⟨by omega, hw, hb1, fun i h hi => by omega, fun i h hi => by omega⟩ ?_
        clear hw hb1 hb3 cO hs
        rintro k w' ⟨hk, hw, hb1, hI, hN⟩
        have hA := hr.free.base
        by_cases hkn : k < r.Free.n
        · have hkl := hr.free.lt hkn
          repeat' (first | (show CW _ _ _ _ _ _; first | refine CW.seq ?_ | refine CW.region ?_ | refine CW.block ?_ | refine CW.condd_t rfl (by omega) ?_ | refine CW.skip ?_) | (show Post _ _ _ _ _; refine Post.seq ?_) | refine SW.nil ?_ | refine SW.pure rfl rfl ?_ | (show SW _ _ _ _ (⟨_, Op.indexAddr _ _ _, _, _, _, none⟩ :: _) _ _; refine SW.st (st_indexN rfl rfl (by assumption) (by omega)) rfl ?_) | (show SW _ _ _ _ (⟨_, Op.load _ _, _, _, _, none⟩ :: _) _ _; refine SW.st (st_loadsx hw rfl rfl ((hr.free.all hkn))) rfl ?_))
          refine SW.alloc rfl fun b7 w3 hw3 hb7b hb7 => ?_
          have hb7w : w.heap.size ≤ b7 := Nat.le_trans hw.size hb7b
          have hne : b1 ≠ b7 := by have := hb1.lt; omega
          (replace hw := Ext.trans hw hw3; replace hb1 := hb1.ext hw3)
          repeat' (refine SW.pure rfl rfl ?_)
          refine SW.storeAgg hb7 rfl rfl rfl rfl (Enc.one (enc := encBk) _) fun w4 hb7' hg => ?_
          replace hw := hw.own hb7w hg
          replace hb1 := hb1.grown hg (by simpa using hne)
          by_cases hbk : blkOk z.From z.To z.Free[k]
          · obtain ⟨hfz, hty'⟩ := id hbk
            obtain ⟨f1, f2, f3, f4, f5⟩ := id hfz
            have hp := pw_le f1 f2
            have cF : ∀ w', Ext w w' → Ans Tryd.prog 55 [.agg (encZ r).toArray, .agg (encBk z.Free[k]).toArray] w' fun v _ => v = .bool true := fun w' _ => by
              have := Zfits_ans r z.Free[k] w' (by omega)
              rwa [eF, eT, decide_eq_true hfz] at this
            have cD : ∀ w', Ans Tryd.prog 53 ([.int .i64 (z.Free[k]).Ty] ++ []) w' fun v _ => v = .bool false := fun w' => by
              have := Zodd_ans (z.Free[k]).Ty w'
              rwa [oddB_f hty'] at this
            by_cases hk0 : k = 0
            · subst hk0
              repeat' (first | (show CW _ _ _ _ _ _; first | refine CW.seq ?_ | refine CW.region ?_ | refine CW.condfr rfl (by with_reducible rfl) ?_ | refine CW.skip ?_ | (apply CW.quiet1 mixed; (· kernel_rfl); rotate_left; intro w1 hw1; replace hw := Ext.trans hw hw1; replace hb1 := hb1.ext hw1; replace hb7' := hb7'.ext hw1; clear hw1; rotate_right)) | (show Post _ _ _ _ _; first | refine Post.seq ?_ | refine Post.blk ?_) | refine SW.nil ?_ | (show SW _ _ _ _ (⟨_, _, _, _, _, some _⟩ :: _) _ _; first | refine SW.want_f rfl rfl (by with_reducible rfl) ?_ | refine SW.skip_t rfl rfl (by with_reducible rfl) rfl ?_ | refine SW.splitd_f rfl rfl rfl (by omega) ?_ | refine SW.want rfl rfl ?_) | refine SW.pure rfl rfl ?_ | (show SW _ _ _ _ (⟨_, Op.fieldAddr _ _ _, _, _, _, none⟩ :: _) _ _; refine SW.st (st_field rfl) rfl ?_) | (show SW _ _ _ _ (⟨_, Op.binOp _ _ _ _ _, _, _, _, none⟩ :: _) _ _; refine SW.st (st_add rfl rfl (by omega) (by omega)) rfl ?_) | (show SW _ _ _ _ (⟨_, Op.load _ _, _, _, _, none⟩ :: _) _ _; first | refine SW.st (st_loads rfl rfl ((fun _ _ => hb1.cell))) rfl ?_ | refine SW.st (st_loads rfl rfl ((fun _ _ => hb7'.cell))) rfl ?_ | refine SW.st (st_load rfl (hb7'.cell rfl)) rfl ?_) | (show SW _ _ _ _ (⟨_, Op.call ⟨.value (.func _), _, _⟩, _, _, _, none⟩ :: _) _ _; refine SW.qcall rfl rfl (fun w1 hw1 => (cF _ (Ext.trans hw hw1))) ?_) | (refine SW.qcallv rfl rfl rfl (fun w1 _ => cD w1) ?_) | exact SW.qnil rfl)
              refine Post.again (0 + 1) ⟨rfl, rfl, rfl, rfl, rfl, trivial⟩ (by omega) ⟨by omega, hw, hb1, fun i h hi => ?_, fun i h hi => by omega⟩
              obtain rfl : i = 0 := by omega
              exact hbk
            · obtain ⟨j, rfl⟩ : ∃ j, k = j + 1 := ⟨k - 1, by omega⟩
              have hj : j < r.Free.n := by omega
              have hjl := hr.free.lt hj
              obtain ⟨⟨g1, g2, g3, g4, g5⟩, _⟩ := hI j hjl (by omega)
              have cE : ∀ w', Ans Tryd.prog 23 [.agg (encBk z.Free[j]).toArray] w' fun v _ => v = .int .i64 ((z.Free[j]).At + pw (z.Free[j]).Order) := fun w' => Zend_ans _ _ ⟨g1, g2⟩ ⟨by omega, by omega⟩
              by_cases hlt : (z.Free[j]).At + pw (z.Free[j]).Order ≤ (z.Free[j + 1]).At
              · by_cases hbu : (z.Free[j + 1]).Order < 4 ∧ (z.Free[j]).Order = (z.Free[j + 1]).Order ∧ (z.Free[j]).At = beside (z.Free[j + 1]).At (z.Free[j + 1]).Order
                · obtain ⟨u1, u2, u3⟩ := id hbu
                  repeat' (first | (show CW _ _ _ _ _ _; first | refine CW.seq ?_ | refine CW.region ?_ | refine CW.condd_t rfl (by omega) ?_ | refine CW.condd_f rfl (by omega) ?_ | refine CW.skip ?_ | refine CW.ret ?_ | (apply CW.quiet1 mixed; (· kernel_rfl); rotate_left; intro w1 hw1; replace hw := Ext.trans hw hw1; replace hb1 := hb1.ext hw1; replace hb7' := hb7'.ext hw1; clear hw1; rotate_right)) | (show Post _ _ _ _ _; first | refine Post.seq ?_ | refine Post.seq_ret ?_ | refine Post.blk_ret ?_ | refine Post.again_ret ?_) | refine SW.nil ?_ | (show SW _ _ _ _ (⟨_, _, _, _, _, some _⟩ :: _) _ _; first | refine SW.want_t rfl rfl (by with_reducible rfl) ?_ | refine SW.want_f rfl rfl (by with_reducible rfl) ?_ | refine SW.splitd_t rfl rfl rfl (by omega) ?_ | refine SW.splitd_f rfl rfl rfl (by omega) ?_) | refine SW.pure rfl rfl ?_ | (show SW _ _ _ _ (⟨_, Op.fieldAddr _ _ _, _, _, _, none⟩ :: _) _ _; refine SW.st (st_field rfl) rfl ?_) | (show SW _ _ _ _ (⟨_, Op.binOp _ _ _ _ _, _, _, _, none⟩ :: _) _ _; refine SW.st (st_sub rfl rfl (by omega) (by omega)) rfl ?_) | (show SW _ _ _ _ (⟨_, Op.indexAddr _ _ _, _, _, _, none⟩ :: _) _ _; refine SW.st (st_indexI (j) rfl rfl (by assumption) (by omega) (by omega)) rfl ?_) | (show SW _ _ _ _ (⟨_, Op.load _ _, _, _, _, none⟩ :: _) _ _; first | refine SW.st (st_loads rfl rfl ((fun _ _ => hb1.cell))) rfl ?_ | refine SW.st (st_loads rfl rfl ((fun _ _ => hb7'.cell))) rfl ?_ | refine SW.st (st_load rfl (hb7'.cell rfl)) rfl ?_ | refine SW.st (st_load rfl (hb1.cell rfl)) rfl ?_ | refine SW.st (st_loadsx hw rfl rfl ((hr.free.all hj))) rfl ?_ | refine SW.st (st_loadx hw rfl (hr.free.fld hj rfl)) rfl ?_) | (show SW _ _ _ _ (⟨_, Op.call ⟨.value (.func _), _, _⟩, _, _, _, none⟩ :: _) _ _; first | refine SW.qcall rfl rfl (fun w1 hw1 => (cF _ (Ext.trans hw hw1))) ?_ | refine SW.qcall rfl rfl (fun w1 hw1 => (cE _)) ?_) | (refine SW.qcallv rfl rfl rfl (fun w1 _ => cD w1) ?_) | (refine SW.st (st_shl (r := pw (z.Free[j + 1]).Order) rfl rfl (by omega) (by omega) (by simp [pw]) (by omega) (by omega)) rfl ?_) | (refine SW.st (st_beside (z.Free[j + 1]).At (z.Free[j + 1]).Order rfl rfl rfl rfl ⟨by omega, by omega, f1, u1, f5⟩) rfl ?_) | exact SW.qnil rfl)
                  refine Post.ret1 rfl rfl ⟨_, rfl, hw, ?_⟩
                  rw [zoneB_f (fun h => (h.next j hkl).2 hbu)]; rfl
                · by_cases u1 : (z.Free[j + 1]).Order < 4
                  · by_cases u2 : (z.Free[j]).Order = (z.Free[j + 1]).Order
                    · have u3 : ¬ (z.Free[j]).At = beside (z.Free[j + 1]).At (z.Free[j + 1]).Order := fun u3 => hbu ⟨u1, u2, u3⟩
                      repeat' (first | (show CW _ _ _ _ _ _; first | refine CW.seq ?_ | refine CW.region ?_ | refine CW.condd_f rfl (by omega) ?_ | refine CW.skip ?_ | (apply CW.quiet1 mixed; (· kernel_rfl); rotate_left; intro w1 hw1; replace hw := Ext.trans hw hw1; replace hb1 := hb1.ext hw1; replace hb7' := hb7'.ext hw1; clear hw1; rotate_right)) | (show Post _ _ _ _ _; first | refine Post.seq ?_ | refine Post.blk ?_) | refine SW.nil ?_ | (show SW _ _ _ _ (⟨_, _, _, _, _, some _⟩ :: _) _ _; first | refine SW.want_t rfl rfl (by with_reducible rfl) ?_ | refine SW.want_f rfl rfl (by with_reducible rfl) ?_ | refine SW.splitd_t rfl rfl rfl (by omega) ?_ | refine SW.want rfl rfl ?_) | refine SW.pure rfl rfl ?_ | (show SW _ _ _ _ (⟨_, Op.fieldAddr _ _ _, _, _, _, none⟩ :: _) _ _; refine SW.st (st_field rfl) rfl ?_) | (show SW _ _ _ _ (⟨_, Op.binOp _ _ _ _ _, _, _, _, none⟩ :: _) _ _; first | refine SW.st (st_add rfl rfl (by omega) (by omega)) rfl ?_ | refine SW.st (st_sub rfl rfl (by omega) (by omega)) rfl ?_) | (show SW _ _ _ _ (⟨_, Op.indexAddr _ _ _, _, _, _, none⟩ :: _) _ _; refine SW.st (st_indexI (j) rfl rfl (by assumption) (by omega) (by omega)) rfl ?_) | (show SW _ _ _ _ (⟨_, Op.load _ _, _, _, _, none⟩ :: _) _ _; first | refine SW.st (st_loads rfl rfl ((fun _ _ => hb1.cell))) rfl ?_ | refine SW.st (st_loads rfl rfl ((fun _ _ => hb7'.cell))) rfl ?_ | refine SW.st (st_load rfl (hb7'.cell rfl)) rfl ?_ | refine SW.st (st_load rfl (hb1.cell rfl)) rfl ?_ | refine SW.st (st_loadsx hw rfl rfl ((hr.free.all hj))) rfl ?_ | refine SW.st (st_loadx hw rfl (hr.free.fld hj rfl)) rfl ?_) | (show SW _ _ _ _ (⟨_, Op.call ⟨.value (.func _), _, _⟩, _, _, _, none⟩ :: _) _ _; first | refine SW.qcall rfl rfl (fun w1 hw1 => (cF _ (Ext.trans hw hw1))) ?_ | refine SW.qcall rfl rfl (fun w1 hw1 => (cE _)) ?_) | (refine SW.qcallv rfl rfl rfl (fun w1 _ => cD w1) ?_) | (refine SW.st (st_shl (r := pw (z.Free[j + 1]).Order) rfl rfl (by omega) (by omega) (by simp [pw]) (by omega) (by omega)) rfl ?_) | (refine SW.st (st_beside (z.Free[j + 1]).At (z.Free[j + 1]).Order rfl rfl rfl rfl ⟨by omega, by omega, f1, u1, f5⟩) rfl ?_) | exact SW.qnil rfl)
                      refine Post.again (j + 1 + 1) ⟨rfl, rfl, rfl, rfl, rfl, trivial⟩ (by omega) ⟨by omega, hw, hb1, fun i h hi => ?_, fun i h hi => ?_⟩
                      · by_cases hij : i = j + 1
                        · subst hij; exact hbk
                        · exact hI i h (by omega)
                      · by_cases hij : i = j
                        · subst hij; exact ⟨hlt, hbu⟩
                        · exact hN i h (by omega)
                    · repeat' (first | (show CW _ _ _ _ _ _; first | refine CW.seq ?_ | refine CW.region ?_ | refine CW.condfr rfl (by with_reducible rfl) ?_ | refine CW.condd_f rfl (by omega) ?_ | refine CW.skip ?_ | (apply CW.quiet1 mixed; (· kernel_rfl); rotate_left; intro w1 hw1; replace hw := Ext.trans hw hw1; replace hb1 := hb1.ext hw1; replace hb7' := hb7'.ext hw1; clear hw1; rotate_right)) | (show Post _ _ _ _ _; first | refine Post.seq ?_ | refine Post.blk ?_) | refine SW.nil ?_ | (show SW _ _ _ _ (⟨_, _, _, _, _, some _⟩ :: _) _ _; first | refine SW.want_t rfl rfl (by with_reducible rfl) ?_ | refine SW.want_f rfl rfl (by with_reducible rfl) ?_ | refine SW.skip_t rfl rfl (by with_reducible rfl) rfl ?_ | refine SW.splitd_t rfl rfl rfl (by omega) ?_ | refine SW.splitd_f rfl rfl rfl (by omega) ?_ | refine SW.want rfl rfl ?_) | refine SW.pure rfl rfl ?_ | (show SW _ _ _ _ (⟨_, Op.fieldAddr _ _ _, _, _, _, none⟩ :: _) _ _; refine SW.st (st_field rfl) rfl ?_) | (show SW _ _ _ _ (⟨_, Op.binOp _ _ _ _ _, _, _, _, none⟩ :: _) _ _; first | refine SW.st (st_add rfl rfl (by omega) (by omega)) rfl ?_ | refine SW.st (st_sub rfl rfl (by omega) (by omega)) rfl ?_) | (show SW _ _ _ _ (⟨_, Op.indexAddr _ _ _, _, _, _, none⟩ :: _) _ _; refine SW.st (st_indexI (j) rfl rfl (by assumption) (by omega) (by omega)) rfl ?_) | (show SW _ _ _ _ (⟨_, Op.load _ _, _, _, _, none⟩ :: _) _ _; first | refine SW.st (st_loads rfl rfl ((fun _ _ => hb1.cell))) rfl ?_ | refine SW.st (st_loads rfl rfl ((fun _ _ => hb7'.cell))) rfl ?_ | refine SW.st (st_load rfl (hb7'.cell rfl)) rfl ?_ | refine SW.st (st_load rfl (hb1.cell rfl)) rfl ?_ | refine SW.st (st_loadsx hw rfl rfl ((hr.free.all hj))) rfl ?_ | refine SW.st (st_loadx hw rfl (hr.free.fld hj rfl)) rfl ?_) | (show SW _ _ _ _ (⟨_, Op.call ⟨.value (.func _), _, _⟩, _, _, _, none⟩ :: _) _ _; first | refine SW.qcall rfl rfl (fun w1 hw1 => (cF _ (Ext.trans hw hw1))) ?_ | refine SW.qcall rfl rfl (fun w1 hw1 => (cE _)) ?_) | (refine SW.qcallv rfl rfl rfl (fun w1 _ => cD w1) ?_) | exact SW.qnil rfl)
                      refine Post.again (j + 1 + 1) ⟨rfl, rfl, rfl, rfl, rfl, trivial⟩ (by omega) ⟨by omega, hw, hb1, fun i h hi => ?_, fun i h hi => ?_⟩
                      · by_cases hij : i = j + 1
                        · subst hij; exact hbk
                        · exact hI i h (by omega)
                      · by_cases hij : i = j
                        · subst hij; exact ⟨hlt, hbu⟩
                        · exact hN i h (by omega)
                  · repeat' (first | (show CW _ _ _ _ _ _; first | refine CW.seq ?_ | refine CW.region ?_ | refine CW.condfr rfl (by with_reducible rfl) ?_ | refine CW.condd_f rfl (by omega) ?_ | refine CW.skip ?_ | (apply CW.quiet1 mixed; (· kernel_rfl); rotate_left; intro w1 hw1; replace hw := Ext.trans hw hw1; replace hb1 := hb1.ext hw1; replace hb7' := hb7'.ext hw1; clear hw1; rotate_right)) | (show Post _ _ _ _ _; first | refine Post.seq ?_ | refine Post.blk ?_) | refine SW.nil ?_ | (show SW _ _ _ _ (⟨_, _, _, _, _, some _⟩ :: _) _ _; first | refine SW.want_t rfl rfl (by with_reducible rfl) ?_ | refine SW.want_f rfl rfl (by with_reducible rfl) ?_ | refine SW.skip_t rfl rfl (by with_reducible rfl) rfl ?_ | refine SW.splitd_t rfl rfl rfl (by omega) ?_ | refine SW.splitd_f rfl rfl rfl (by omega) ?_ | refine SW.want rfl rfl ?_) | refine SW.pure rfl rfl ?_ | (show SW _ _ _ _ (⟨_, Op.fieldAddr _ _ _, _, _, _, none⟩ :: _) _ _; refine SW.st (st_field rfl) rfl ?_) | (show SW _ _ _ _ (⟨_, Op.binOp _ _ _ _ _, _, _, _, none⟩ :: _) _ _; first | refine SW.st (st_add rfl rfl (by omega) (by omega)) rfl ?_ | refine SW.st (st_sub rfl rfl (by omega) (by omega)) rfl ?_) | (show SW _ _ _ _ (⟨_, Op.indexAddr _ _ _, _, _, _, none⟩ :: _) _ _; refine SW.st (st_indexI (j) rfl rfl (by assumption) (by omega) (by omega)) rfl ?_) | (show SW _ _ _ _ (⟨_, Op.load _ _, _, _, _, none⟩ :: _) _ _; first | refine SW.st (st_loads rfl rfl ((fun _ _ => hb1.cell))) rfl ?_ | refine SW.st (st_loads rfl rfl ((fun _ _ => hb7'.cell))) rfl ?_ | refine SW.st (st_load rfl (hb7'.cell rfl)) rfl ?_ | refine SW.st (st_load rfl (hb1.cell rfl)) rfl ?_ | refine SW.st (st_loadsx hw rfl rfl ((hr.free.all hj))) rfl ?_) | (show SW _ _ _ _ (⟨_, Op.call ⟨.value (.func _), _, _⟩, _, _, _, none⟩ :: _) _ _; first | refine SW.qcall rfl rfl (fun w1 hw1 => (cF _ (Ext.trans hw hw1))) ?_ | refine SW.qcall rfl rfl (fun w1 hw1 => (cE _)) ?_) | (refine SW.qcallv rfl rfl rfl (fun w1 _ => cD w1) ?_) | exact SW.qnil rfl)
                    refine Post.again (j + 1 + 1) ⟨rfl, rfl, rfl, rfl, rfl, trivial⟩ (by omega) ⟨by omega, hw, hb1, fun i h hi => ?_, fun i h hi => ?_⟩
                    · by_cases hij : i = j + 1
                      · subst hij; exact hbk
                      · exact hI i h (by omega)
                    · by_cases hij : i = j
                      · subst hij; exact ⟨hlt, hbu⟩
                      · exact hN i h (by omega)
              · repeat' (first | (show CW _ _ _ _ _ _; first | refine CW.seq ?_ | refine CW.region ?_ | refine CW.condd_t rfl (by omega) ?_ | refine CW.ret ?_ | (apply CW.quiet1 mixed; (· kernel_rfl); rotate_left; intro w1 hw1; replace hw := Ext.trans hw hw1; replace hb1 := hb1.ext hw1; replace hb7' := hb7'.ext hw1; clear hw1; rotate_right)) | (show Post _ _ _ _ _; first | refine Post.seq ?_ | refine Post.seq_ret ?_ | refine Post.blk_ret ?_ | refine Post.again_ret ?_) | refine SW.nil ?_ | (show SW _ _ _ _ (⟨_, _, _, _, _, some _⟩ :: _) _ _; first | refine SW.want_t rfl rfl (by with_reducible rfl) ?_ | refine SW.want_f rfl rfl (by with_reducible rfl) ?_ | refine SW.splitd_t rfl rfl rfl (by omega) ?_ | refine SW.want rfl rfl ?_) | refine SW.pure rfl rfl ?_ | (show SW _ _ _ _ (⟨_, Op.fieldAddr _ _ _, _, _, _, none⟩ :: _) _ _; refine SW.st (st_field rfl) rfl ?_) | (show SW _ _ _ _ (⟨_, Op.binOp _ _ _ _ _, _, _, _, none⟩ :: _) _ _; refine SW.st (st_sub rfl rfl (by omega) (by omega)) rfl ?_) | (show SW _ _ _ _ (⟨_, Op.indexAddr _ _ _, _, _, _, none⟩ :: _) _ _; refine SW.st (st_indexI (j) rfl rfl (by assumption) (by omega) (by omega)) rfl ?_) | (show SW _ _ _ _ (⟨_, Op.load _ _, _, _, _, none⟩ :: _) _ _; first | refine SW.st (st_loads rfl rfl ((fun _ _ => hb1.cell))) rfl ?_ | refine SW.st (st_loads rfl rfl ((fun _ _ => hb7'.cell))) rfl ?_ | refine SW.st (st_load rfl (hb7'.cell rfl)) rfl ?_ | refine SW.st (st_load rfl (hb1.cell rfl)) rfl ?_ | refine SW.st (st_loadsx hw rfl rfl ((hr.free.all hj))) rfl ?_) | (show SW _ _ _ _ (⟨_, Op.call ⟨.value (.func _), _, _⟩, _, _, _, none⟩ :: _) _ _; first | refine SW.qcall rfl rfl (fun w1 hw1 => (cF _ (Ext.trans hw hw1))) ?_ | refine SW.qcall rfl rfl (fun w1 hw1 => (cE _)) ?_) | (refine SW.qcallv rfl rfl rfl (fun w1 _ => cD w1) ?_) | exact SW.qnil rfl)
                refine Post.ret1 rfl rfl ⟨_, rfl, hw, ?_⟩
                rw [zoneB_f (fun h => hlt (h.next j hkl).1)]; rfl
          · have hfail : zoneB z = false := zoneB_f (fun h => hbk (h.blk k hkl))
            by_cases hfz : fitsZ z.From z.To (z.Free[k]).At (z.Free[k]).Order
            · have hty' : ¬ tyOk (z.Free[k]).Ty := fun h => hbk ⟨hfz, h⟩
              have cF : ∀ w', Ext w w' → Ans Tryd.prog 55 [.agg (encZ r).toArray, .agg (encBk z.Free[k]).toArray] w' fun v _ => v = .bool true := fun w' _ => by
                have := Zfits_ans r z.Free[k] w' (by omega)
                rwa [eF, eT, decide_eq_true hfz] at this
              have cD : ∀ w', Ans Tryd.prog 53 ([.int .i64 (z.Free[k]).Ty] ++ []) w' fun v _ => v = .bool true := fun w' => by
                have := Zodd_ans (z.Free[k]).Ty w'
                rwa [oddB_t hty'] at this
              repeat' (first | (show CW _ _ _ _ _ _; first | refine CW.seq ?_ | refine CW.region ?_ | refine CW.condtr rfl (by with_reducible rfl) ?_ | refine CW.ret ?_ | (apply CW.quiet1 mixed; (· kernel_rfl); rotate_left; intro w1 hw1; replace hw := Ext.trans hw hw1; replace hb1 := hb1.ext hw1; replace hb7' := hb7'.ext hw1; clear hw1; rotate_right)) | (show Post _ _ _ _ _; first | refine Post.seq ?_ | refine Post.seq_ret ?_ | refine Post.blk_ret ?_ | refine Post.again_ret ?_) | refine SW.nil ?_ | (show SW _ _ _ _ (⟨_, _, _, _, _, some _⟩ :: _) _ _; first | refine SW.skip_f rfl rfl (by with_reducible rfl) rfl ?_ | refine SW.skip_u rfl rfl (by with_reducible rfl) rfl ?_ | refine SW.want rfl rfl ?_) | refine SW.pure rfl rfl ?_ | (show SW _ _ _ _ (⟨_, Op.fieldAddr _ _ _, _, _, _, none⟩ :: _) _ _; refine SW.st (st_field rfl) rfl ?_) | (show SW _ _ _ _ (⟨_, Op.load _ _, _, _, _, none⟩ :: _) _ _; first | refine SW.st (st_loads rfl rfl ((fun _ _ => hb1.cell))) rfl ?_ | refine SW.st (st_loads rfl rfl ((fun _ _ => hb7'.cell))) rfl ?_ | refine SW.st (st_load rfl (hb7'.cell rfl)) rfl ?_) | (show SW _ _ _ _ (⟨_, Op.call ⟨.value (.func _), _, _⟩, _, _, _, none⟩ :: _) _ _; refine SW.qcall rfl rfl (fun w1 hw1 => (cF _ (Ext.trans hw hw1))) ?_) | (refine SW.qcallv rfl rfl rfl (fun w1 _ => cD w1) ?_) | exact SW.qnil rfl)
              exact Post.ret1 rfl rfl ⟨_, rfl, hw, by rw [hfail]; rfl⟩
            · have cF : ∀ w', Ext w w' → Ans Tryd.prog 55 [.agg (encZ r).toArray, .agg (encBk z.Free[k]).toArray] w' fun v _ => v = .bool false := fun w' _ => by
                have := Zfits_ans r z.Free[k] w' (by omega)
                rwa [eF, eT, decide_eq_false hfz] at this
              repeat' (first | (show CW _ _ _ _ _ _; first | refine CW.seq ?_ | refine CW.region ?_ | refine CW.condtr rfl (by with_reducible rfl) ?_ | refine CW.ret ?_ | (apply CW.quiet1 mixed; (· kernel_rfl); rotate_left; intro w1 hw1; replace hw := Ext.trans hw hw1; replace hb1 := hb1.ext hw1; replace hb7' := hb7'.ext hw1; clear hw1; rotate_right)) | (show Post _ _ _ _ _; first | refine Post.seq ?_ | refine Post.seq_ret ?_ | refine Post.blk_ret ?_ | refine Post.again_ret ?_) | refine SW.nil ?_ | (show SW _ _ _ _ (⟨_, _, _, _, _, some _⟩ :: _) _ _; first | refine SW.skip_f rfl rfl (by with_reducible rfl) rfl ?_ | refine SW.skip_u rfl rfl (by with_reducible rfl) rfl ?_ | refine SW.skip rfl rfl rfl rfl ?_) | refine SW.pure rfl rfl ?_ | (show SW _ _ _ _ (⟨_, Op.load _ _, _, _, _, none⟩ :: _) _ _; first | refine SW.st (st_loads rfl rfl ((fun _ _ => hb1.cell))) rfl ?_ | refine SW.st (st_loads rfl rfl ((fun _ _ => hb7'.cell))) rfl ?_) | (show SW _ _ _ _ (⟨_, Op.call ⟨.value (.func _), _, _⟩, _, _, _, none⟩ :: _) _ _; refine SW.qcall rfl rfl (fun w1 hw1 => (cF _ (Ext.trans hw hw1))) ?_) | exact SW.qnil rfl)
              exact Post.ret1 rfl rfl ⟨_, rfl, hw, by rw [hfail]; rfl⟩
        · repeat' (first | (show CW _ _ _ _ _ _; first | refine CW.seq ?_ | refine CW.region ?_ | refine CW.condd_f rfl (by omega) ?_ | refine CW.ret ?_ | refine CW.exit ?_) | (show Post _ _ _ _ _; first | refine Post.seq ?_ | refine Post.seq_exit ?_ | refine Post.hit ?_ | refine Post.again_exit ?_) | refine SW.nil ?_ | refine SW.pure rfl rfl ?_)
          refine Post.ret1 rfl rfl ⟨_, rfl, hw, ?_⟩
          rw [zoneB_t ⟨by rw [← eF, ← eT]; exact hok, hl8, hty, fun i h => hI i h (by omega), fun i h => hN i h (by omega)⟩]; rfl
      · rw [hodd] at cO
        repeat' (first | (show CW _ _ _ _ _ _; first | refine CW.seq ?_ | refine CW.region ?_ | refine CW.condtr rfl (by with_reducible rfl) ?_ | refine CW.condn_f rfl (by omega) ?_ | refine CW.skip ?_ | refine CW.ret ?_) | (show Post _ _ _ _ _; first | refine Post.seq ?_ | refine Post.seq_ret ?_) | refine SW.nil ?_ | (show SW _ _ _ _ (⟨_, _, _, _, _, some _⟩ :: _) _ _; first | refine SW.want_f rfl rfl (by with_reducible rfl) ?_ | refine SW.splitn_f rfl rfl rfl (by omega) ?_) | refine SW.pure rfl rfl ?_ | (show SW _ _ _ _ (⟨_, Op.fieldAddr _ _ _, _, _, _, none⟩ :: _) _ _; refine SW.st (st_field rfl) rfl ?_) | (show SW _ _ _ _ (⟨_, Op.binOp _ _ _ _ _, _, _, _, none⟩ :: _) _ _; first | refine SW.st (st_sub rfl rfl (by omega) (by omega)) rfl ?_ | refine SW.st (st_quo rfl rfl (by omega) (by omega) (by omega)) rfl ?_) | (show SW _ _ _ _ (⟨_, Op.call ⟨.builtin .len, _, _⟩, _, _, _, none⟩ :: _) _ _; refine SW.st (st_len rfl) rfl ?_) | (show SW _ _ _ _ (⟨_, Op.load _ _, _, _, _, none⟩ :: _) _ _; refine SW.st (st_load rfl (hb1.cell rfl)) rfl ?_) | (show SW _ _ _ _ (⟨_, Op.call ⟨.value (.func _), _, _⟩, _, _, _, none⟩ :: _) _ _; (refine SW.call rfl rfl (cO _ hw) ?_; intro v w1 hw1 hv; subst hv; replace hw := Ext.trans hw hw1; replace hb1 := hb1.ext hw1; clear hw1)))
        refine Post.ret1 rfl rfl ⟨_, rfl, hw, ?_⟩
        rw [zoneB_f (fun h => by
          rw [List.any_eq_true] at hodd
          obtain ⟨t, h1, h2⟩ := hodd
          rw [oddB_f (h.types t h1)] at h2
          cases h2)]; rfl
    · repeat' (refine SW.pure rfl rfl ?_)
      refine SW.alloc rfl fun b3 w1 hw1 hb3b hb3 => ?_
      have hb3w : w.heap.size ≤ b3 := Nat.le_trans hw.size hb3b
      have hne_b1 : b1 ≠ b3 := by have := hb1.lt; omega
      replace hw := Ext.trans hw hw1
      replace hb1 := hb1.ext hw1
      replace hs := hs.ext hw1
      refine SW.storeAgg hb3 rfl rfl rfl rfl (one_z _) fun w2 hb3' hg => ?_
      replace hw := hw.own hb3w hg
      replace hs := hs.blk hb3 hg rfl rfl
      replace hb1 := hb1.grown hg (by simpa using hne_b1)
      replace hb3 := hb3'
      clear hb3' hw1 hg hb3b
      repeat' (first | (show CW _ _ _ _ _ _; first | refine CW.seq ?_ | refine CW.region ?_ | refine CW.condn_t rfl (by omega) ?_ | refine CW.ret ?_) | (show Post _ _ _ _ _; first | refine Post.seq ?_ | refine Post.seq_ret ?_) | refine SW.nil ?_ | (show SW _ _ _ _ (⟨_, _, _, _, _, some _⟩ :: _) _ _; first | refine SW.want_f rfl rfl (by with_reducible rfl) ?_ | refine SW.splitn_f rfl rfl rfl (by omega) ?_) | refine SW.pure rfl rfl ?_ | (show SW _ _ _ _ (⟨_, Op.fieldAddr _ _ _, _, _, _, none⟩ :: _) _ _; refine SW.st (st_field rfl) rfl ?_) | (show SW _ _ _ _ (⟨_, Op.binOp _ _ _ _ _, _, _, _, none⟩ :: _) _ _; first | refine SW.st (st_sub rfl rfl (by omega) (by omega)) rfl ?_ | refine SW.st (st_quo rfl rfl (by omega) (by omega) (by omega)) rfl ?_) | (show SW _ _ _ _ (⟨_, Op.call ⟨.builtin .len, _, _⟩, _, _, _, none⟩ :: _) _ _; refine SW.st (st_len rfl) rfl ?_) | (show SW _ _ _ _ (⟨_, Op.load _ _, _, _, _, none⟩ :: _) _ _; refine SW.st (st_load rfl (hb1.cell rfl)) rfl ?_))
      refine Post.ret1 rfl rfl ⟨_, rfl, hw, ?_⟩
      rw [zoneB_f (fun h => hl8 h.len)]; rfl
  · rw [zoneNewV_f hok] at hv
    obtain ⟨s, rfl, hs⟩ := hv
    repeat' (refine SW.pure rfl rfl ?_)
    refine SW.alloc rfl fun b3 w1 hw1 hb3b hb3 => ?_
    have hb3w : w.heap.size ≤ b3 := Nat.le_trans hw.size hb3b
    have hne_b1 : b1 ≠ b3 := by have := hb1.lt; omega
    replace hw := Ext.trans hw hw1
    replace hb1 := hb1.ext hw1
    replace hs := hs.ext hw1
    refine SW.storeAgg hb3 rfl rfl rfl rfl (one_z _) fun w2 hb3' hg => ?_
    replace hw := hw.own hb3w hg
    replace hs := hs.blk hb3 hg rfl rfl
    replace hb1 := hb1.grown hg (by simpa using hne_b1)
    replace hb3 := hb3'
    clear hb3' hw1 hg hb3b
    repeat' (first | (show CW _ _ _ _ _ _; first | refine CW.seq ?_ | refine CW.region ?_ | refine CW.condtr rfl (by with_reducible rfl) ?_ | refine CW.ret ?_) | (show Post _ _ _ _ _; first | refine Post.seq ?_ | refine Post.seq_ret ?_) | refine SW.nil ?_ | (show SW _ _ _ _ (⟨_, _, _, _, _, some _⟩ :: _) _ _; first | refine SW.skip_f rfl rfl (by with_reducible rfl) rfl ?_ | refine SW.splitn_t rfl rfl rfl (by omega) ?_) | refine SW.pure rfl rfl ?_)
    refine Post.ret1 rfl rfl ⟨_, rfl, hw, ?_⟩
    rw [zoneB_f (fun h => hok (by rw [eF, eT]; exact h.ok))]; rfl
end Go.Proofs.YtfommgdbahemfaaDoor
