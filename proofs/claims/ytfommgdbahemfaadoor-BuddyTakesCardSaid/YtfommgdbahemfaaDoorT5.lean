/-
  Contract: the law BuddyTakes.
-/
import Derived.Test.YtfommgdbahemfaaDoorT4
set_option linter.unusedVariables false
namespace Go.Proofs.YtfommgdbahemfaaDoor
open Go.RowKit

theorem splitL_len (ty a : Int) : ∀ (f : Nat) (q : Int) (l : List Block), (splitL ty a f q l).length = l.length + f
  | 0, _, _ => rfl
  | f + 1, q, l => by rw [splitL, splitL_len ty a f, halfL_len]; omega
theorem TakeR.len {z : Zone} {o t : Int} {u : Zone × Int × Int} (h : TakeR z o t u) : u.1.Free.length ≤ 300 ∧ u.1.Types.length ≤ 32 := by
  cases h with
  | bad | range | kind | room => simp [Zone.zero]
  | @ok k st hq ho ht hk hp =>
    have hz := zoneB_iff.1 hq
    have hl := zone_len hz
    have hb := (hz.blk k hk).1
    obtain ⟨l1, l2, l3⟩ := takeF_ok hz (b := z.Free[k]) ht st
    have e : (if st = true then stFree z.Free z.Free[k] t else z.Free) = takeF z z.Free[k] t st := rfl
    have h4 := hb.2.1
    refine ⟨?_, ?_⟩
    · simp only [takenZ, splitL_len, e]
      have := List.length_eraseIdx_le (takeF z z.Free[k] t st) k
      omega
    · simp only [takenZ]
      split
      · unfold stTypes
        split
        · omega
        · split <;> simp <;> omega
      · omega

theorem buddyTakes_ans (r : ZRow) (z : Zone) (f s : Int) (w : World) (hr : RdZ w r z) (hf : r.Free.n * 24 ≤ 140737488351232) (ht : r.Types.n * 8 ≤ 140737488355328) (h1 : -9223372036854775808 ≤ r.From ∧ r.From ≤ 9223372036854775807) (h2 : -9223372036854775808 ≤ r.To ∧ r.To ≤ 9223372036854775807) (hO : OthW w) :
    Ans Tryd.prog 3 [.agg (encZ r).toArray, .int .i64 f, .int .i64 s] w fun v _ => v = .bool true := by
  refine ans_of Tryd.func3 rfl Tryd.ntmps3 rfl ?_
  have hFl := hr.free.len
  have hTl := hr.types.len
  have e1 := hr.from_
  have e2 := hr.to_
  refine CW.seq (CW.region (SW.box rfl rfl fun b3 w1 hw hb3b hb3 => ?_))
  repeat' (first | (show CW _ _ _ _ _ _; first | refine CW.seq ?_ | refine CW.region ?_) | (show Post _ _ _ _ _; refine Post.seq ?_) | refine SW.nil ?_ | refine SW.pure rfl rfl ?_ | (show SW _ _ _ _ (⟨_, Op.load _ _, _, _, _, none⟩ :: _) _ _; refine SW.st (st_loads rfl rfl ((fun _ _ => hb3.cell))) rfl ?_))
  refine SW.call rfl rfl (ZoneCopy_ans r z _ (hr.ext hw) (by omega) ht) fun v w4 hw4 hv => ?_
  obtain ⟨u, rfl, hK⟩ := hv
  (replace hw := Ext.trans hw hw4; replace hb3 := hb3.ext hw4)
  refine SW.alloc rfl fun b7 w1 hw1 hb7b hb7 => ?_
  skip
  refine SW.storeAgg hb7 rfl rfl rfl rfl (one_z u) fun w2 hb7' hg => ?_
  have hXX := hw1.own hb7b hg
  have hb7w : w.heap.size ≤ b7 := Nat.le_trans hw.size hb7b
  replace hw := Ext.trans hw hXX
  replace hb3 := hb3.ext hXX
  replace hK := hK.ext hXX
  replace hb7 := hb7'
  clear hb7' hw1 hg hXX
  have e3 := hK.free.sl.len
  have e4 := hK.types.sl.len
  have e5 := hK.from_
  have e6 := hK.to_
  repeat' (first | (show CW _ _ _ _ _ _; first | refine CW.seq ?_ | refine CW.region ?_) | (show Post _ _ _ _ _; refine Post.seq ?_) | refine SW.nil ?_ | refine SW.pure rfl rfl ?_ | (show SW _ _ _ _ (⟨_, Op.load _ _, _, _, _, none⟩ :: _) _ _; refine SW.st (st_loads rfl rfl ((fun _ _ => hb7.cell))) rfl ?_))
  refine SW.call rfl rfl (Take_ans u z f s _ hK.rd (by omega) (by omega) ⟨by omega, by omega⟩ ⟨by omega, by omega⟩ (hO.ext hw)) fun v w5 hw5 hv => ?_
  obtain ⟨o, ho, u1, rfl, hs1⟩ := hv
  have hle := ho.len
  (replace hw := Ext.trans hw hw5; replace hb3 := hb3.ext hw5; replace hb7 := hb7.ext hw5; replace hK := hK.ext hw5)
  repeat' (refine SW.pure rfl rfl ?_)
  refine SW.alloc rfl fun b8 w1 hw1 hb8b hb8 => ?_
  skip
  refine SW.storeAgg hb8 rfl rfl rfl rfl (one_z u1) fun w2 hb8' hg => ?_
  have hXX := hw1.own hb8b hg
  have hb8w : w.heap.size ≤ b8 := Nat.le_trans hw.size hb8b
  replace hw := Ext.trans hw hXX
  replace hb3 := hb3.ext hXX
  replace hb7 := hb7.ext hXX
  replace hK := hK.ext hXX
  replace hs1 := hs1.ext hXX
  replace hb8 := hb8'
  clear hb8' hw1 hg hXX
  repeat' (first | (show CW _ _ _ _ _ _; first | refine CW.seq ?_ | refine CW.region ?_) | (show Post _ _ _ _ _; refine Post.seq ?_) | refine SW.nil ?_ | refine SW.pure rfl rfl ?_ | (show SW _ _ _ _ (⟨_, Op.load _ _, _, _, _, none⟩ :: _) _ _; refine SW.st (st_loads rfl rfl ((fun _ _ => hb3.cell))) rfl ?_))
  refine SW.call rfl rfl (TakenOf_ans r z f s _ (hr.ext hw) (by omega) (by omega) h1 h2) fun v w6 hw6 hv => ?_
  obtain ⟨o', ho', u2, rfl, hs2⟩ := hv
  obtain rfl := ho.det ho'
  (replace hw := Ext.trans hw hw6; replace hb3 := hb3.ext hw6; replace hb7 := hb7.ext hw6; replace hb8 := hb8.ext hw6; replace hK := hK.ext hw6; replace hs1 := hs1.ext hw6)
  repeat' (refine SW.pure rfl rfl ?_)
  refine SW.alloc rfl fun b10 w1 hw1 hb10b hb10 => ?_
  skip
  refine SW.storeAgg hb10 rfl rfl rfl rfl (one_z u2) fun w2 hb10' hg => ?_
  have hXX := hw1.own hb10b hg
  have hb10w : w.heap.size ≤ b10 := Nat.le_trans hw.size hb10b
  replace hw := Ext.trans hw hXX
  replace hb3 := hb3.ext hXX
  replace hb7 := hb7.ext hXX
  replace hb8 := hb8.ext hXX
  replace hK := hK.ext hXX
  replace hs1 := hs1.ext hXX
  replace hs2 := hs2.ext hXX
  replace hb10 := hb10'
  clear hb10' hw1 hg hXX
  have cS : ∀ w', Ext w w' → RdZ w' u1 o.1 → RdZ w' u2 o.1 → Ans Tryd.prog 9 [.agg (encZ u1).toArray, .agg (encZ u2).toArray] w' fun v _ => v = .bool true := fun w' h x1 x2 => by
    have := sameZone_ans u1 u2 o.1 o.1 w' x1 x2 (by have := x1.free.len; omega) (by have := x1.types.len; omega)
    simpa using this
  have cT : ∀ w', Ext w w' → RdZ w' u z → Ans Tryd.prog 9 [.agg (encZ u).toArray, .agg (encZ r).toArray] w' fun v _ => v = .bool true := fun w' h x1 => by
    have := sameZone_ans u r z z w' x1 (hr.ext h) (by omega) (by omega)
    simpa using this
  repeat' (first | (show CW _ _ _ _ _ _; first | refine CW.seq ?_ | refine CW.region ?_ | refine CW.ret ?_) | (show Post _ _ _ _ _; refine Post.seq ?_) | refine SW.nil ?_ | (show SW _ _ _ _ (⟨_, _, _, _, _, some _⟩ :: _) _ _; first | refine SW.want_t rfl rfl (by with_reducible rfl) ?_ | refine SW.splitd_t rfl rfl rfl (by omega) ?_) | refine SW.pure rfl rfl ?_ | (show SW _ _ _ _ (⟨_, Op.load _ _, _, _, _, none⟩ :: _) _ _; first | refine SW.st (st_loads rfl rfl ((fun _ _ => hb3.cell))) rfl ?_ | refine SW.st (st_loads rfl rfl ((fun _ _ => hb7.cell))) rfl ?_ | refine SW.st (st_loads rfl rfl ((fun _ _ => hb8.cell))) rfl ?_ | refine SW.st (st_loads rfl rfl ((fun _ _ => hb10.cell))) rfl ?_) | (show SW _ _ _ _ (⟨_, Op.call ⟨.value (.func _), _, _⟩, _, _, _, none⟩ :: _) _ _; first | (refine SW.call rfl rfl (cS _ hw hs1.rd hs2.rd) ?_; intro v w1 hw1 hv; subst hv; replace hw := Ext.trans hw hw1; replace hb3 := hb3.ext hw1; replace hb7 := hb7.ext hw1; replace hb8 := hb8.ext hw1; replace hb10 := hb10.ext hw1; replace hK := hK.ext hw1; replace hs1 := hs1.ext hw1; replace hs2 := hs2.ext hw1; clear hw1) | (refine SW.call rfl rfl (cT _ hw hK.rd) ?_; intro v w1 hw1 hv; subst hv; replace hw := Ext.trans hw hw1; replace hb3 := hb3.ext hw1; replace hb7 := hb7.ext hw1; replace hb8 := hb8.ext hw1; replace hb10 := hb10.ext hw1; replace hK := hK.ext hw1; replace hs1 := hs1.ext hw1; replace hs2 := hs2.ext hw1; clear hw1)))
  all_goals first | (exfalso; omega) | skip
  exact Post.ret1 rfl rfl ⟨_, rfl, hw, rfl⟩
end Go.Proofs.YtfommgdbahemfaaDoor
