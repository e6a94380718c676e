/-
  Contracts: pages.Drain, DrainedOf of the reference; the law PagesDrains.
-/
import Derived.Test.YtfdmgflboibdoaaQ6
import Derived.Test.YtfdmgflboibdoaaM7
import Derived.Test.YtfdmgflboibdoaaH3
import Derived.Test.YtfdmgflboibdoaaH4
set_option linter.unusedVariables false
set_option linter.unusedSimpArgs false
namespace Go.Proofs.Ytfdmgflboibdoaa
open Go.RowKit

noncomputable def drainV (h : Heap) : Int × Heap := if heapB h then (match h.Zones with | [z0, z1] => (0, drained h z0 z1) | _ => (8, ⟨[], [], 0, [], []⟩)) else (8, ⟨[], [], 0, [], []⟩)
theorem drainV_8 {h : Heap} (hb : heapB h = false) : drainV h = (8, ⟨[], [], 0, [], []⟩) := by simp [drainV, hb]
theorem drainV_0 {h : Heap} (hb : heapB h = true) {z0 z1 : Zone} (hz : h.Zones = [z0, z1]) : drainV h = (0, drained h z0 z1) := by simp [drainV, hb, hz]

set_option maxHeartbeats 2000000 in
theorem Drain_ans (r : HRow) (h : Heap) (w : World) (hr : RdH w r h) (hs : h.small) (hzn : ∀ z ∈ h.Zones, big64 z) :
    Ans Try.prog 60 [.agg (encH r).toArray] w (HeapOut w.heap.size (drainV h)) := by
  refine ans_of Try.func60 rfl Try.ntmps60 rfl ?_
  refine CW.seq (CW.region (SW.box rfl rfl fun b1 w1 hw hb1b hb1 => ?_))
  have hb1w := hb1b
  refine SW.alloc rfl fun b2 w2 hw2 hb2b hb2 => ?_
  have hb2w : w.heap.size ≤ b2 := Nat.le_trans hw.size hb2b
  have hne : b1 ≠ b2 := by have := hb1.lt; omega
  (replace hw := Ext.trans hw hw2; replace hb1 := hb1.ext hw2)
  obtain ⟨q, hq⟩ : ∃ q, heapB h = q := ⟨_, rfl⟩
  have c1 : ∀ w', Ext w w' → Ans Try.prog 43 [.agg (encH r).toArray] w' fun v _ => v = .int .i64 (if q then 0 else 8) := fun w' hx => by
    have := Pcheck_ans r h w' (hr.ext hx) hs hzn
    rwa [hq] at this
  cases q
  · simp only [Bool.false_eq_true, if_false] at c1
    rw [drainV_8 hq]
    repeat' (first | (show CW _ _ _ _ _ _; first | refine CW.seq ?_ | refine CW.region ?_ | refine CW.condn_t rfl (by omega) ?_) | (show Post _ _ _ _ _; refine Post.seq ?_) | refine SW.nil ?_ | refine SW.pure rfl rfl ?_ | (show SW _ _ _ _ (⟨_, Op.build _ _, _, _, _, none⟩ :: _) _ _; refine SW.st (st_build rfl rfl) rfl ?_) | (show SW _ _ _ _ (⟨_, Op.load _ _, _, _, _, none⟩ :: _) _ _; refine SW.st (st_loads rfl rfl ((fun _ _ => hb1.cell))) rfl ?_) | (show SW _ _ _ _ (⟨_, Op.call ⟨.value (.func _), _, _⟩, _, _, _, none⟩ :: _) _ _; (refine SW.call rfl rfl (c1 _ hw) ?_; intro v w1 hw1 hv; subst hv; replace hw := Ext.trans hw hw1; replace hb1 := hb1.ext hw1; replace hb2 := hb2.ext hw1; clear hw1)))
    refine SW.storeAgg hb2 rfl rfl rfl rfl (one_h .zero) fun w5 hR2 hg => ?_
    replace hw := hw.own hb2w hg
    repeat' (first | (show CW _ _ _ _ _ _; refine CW.ret ?_) | (show Post _ _ _ _ _; first | refine Post.seq ?_ | refine Post.seq_ret ?_) | refine SW.nil ?_ | refine SW.pure rfl rfl ?_)
    exact Post.ret2c rfl rfl rfl hR2 rfl ⟨_, rfl, hw, HeapOut.zero 8 _ _⟩
  · simp only [if_true] at c1
    have hm := heapB_iff.1 hq
    obtain ⟨z0, z1, hd⟩ := dheap_of hm
    rw [drainV_0 hq hd.zones]
    repeat' (first | (show CW _ _ _ _ _ _; first | refine CW.seq ?_ | refine CW.region ?_ | refine CW.condn_f rfl (by omega) ?_ | refine CW.skip ?_) | (show Post _ _ _ _ _; refine Post.seq ?_) | refine SW.nil ?_ | refine SW.pure rfl rfl ?_ | (show SW _ _ _ _ (⟨_, Op.load _ _, _, _, _, none⟩ :: _) _ _; refine SW.st (st_loads rfl rfl ((fun _ _ => hb1.cell))) rfl ?_) | (show SW _ _ _ _ (⟨_, Op.call ⟨.value (.func _), _, _⟩, _, _, _, none⟩ :: _) _ _; (refine SW.call rfl rfl (c1 _ hw) ?_; intro v w1 hw1 hv; subst hv; replace hw := Ext.trans hw hw1; replace hb1 := hb1.ext hw1; replace hb2 := hb2.ext hw1; clear hw1)))
    refine SW.call rfl rfl (Hcopy_ans r h _ (hr.ext hw) hs) fun v w4 hw4 hv => ?_
    obtain ⟨s, rfl, hO⟩ := hv
    replace hO := hO.low hw.size
    (replace hw := Ext.trans hw hw4; replace hb1 := hb1.ext hw4; replace hb2 := hb2.ext hw4)
    clear c1
    obtain ⟨g, c, u0, u1, ls, eZ, hZ, hR⟩ := hO.split hd.zones
    have ecp := hO.cpus
    clear hO
    obtain ⟨sz, m, cp, li, lv⟩ := s
    simp only at eZ hR ecp
    subst eZ
    refine SW.storeAgg hb1 rfl rfl rfl rfl (one_h ⟨⟨some ⟨g, 0, none⟩, 2, c⟩, m, cp, li, lv⟩) fun w5 hb1' hg => ?_
    have hG := hb1.gr hg
    replace hw := hw.own hb1w hg
    replace hb2 := hb2.grown hg (by simpa using Ne.symm hne)
    replace hZ := hZ.grT hG rfl
    replace hR := hR.grT hG rfl
    replace hb1 := hb1'
    clear hb1' hg hG
    repeat' (first | (show CW _ _ _ _ _ _; first | refine CW.seq ?_ | refine CW.region ?_) | (show Post _ _ _ _ _; refine Post.seq ?_) | refine SW.nil ?_)
    have hg2 : b2 ≠ g := fun e => hZ.row.ne_blk hb2 rfl (by rw [hZ.own, e])
    refine SW.callX rfl rfl (drain_ans h z0 z1 hd hs m cp li lv ls u0 u1 g c b1 w.heap.size w _ hw (Nat.le_refl _) hw.size hb1w hb1 hZ hR) fun v w6 hv => ?_
    obtain ⟨hw', hE, hb1', hR', u2, u3, hZ'⟩ := hv
    replace hb2 := hE.blk hb2 hg2 (Ne.symm hne)
    clear hw hb1 hR hZ hE
    have hw := hw'
    clear hw'
    repeat' (first | (show CW _ _ _ _ _ _; first | refine CW.seq ?_ | refine CW.region ?_) | (show Post _ _ _ _ _; refine Post.seq ?_) | refine SW.nil ?_ | (show SW _ _ _ _ (⟨_, Op.load _ _, _, _, _, none⟩ :: _) _ _; refine SW.st (st_loads rfl rfl ((fun _ _ => hb1'.cell))) rfl ?_))
    refine SW.storeAgg hb2 rfl rfl rfl rfl (one_h ⟨⟨some ⟨g, 0, none⟩, 2, c⟩, m, cp, .nil, lv⟩) fun w7 hR2 hg => ?_
    have hG := hb2.gr hg
    replace hw := hw.own hb2w hg
    repeat' (first | (show CW _ _ _ _ _ _; refine CW.ret ?_) | (show Post _ _ _ _ _; refine Post.seq ?_) | refine SW.nil ?_ | refine SW.pure rfl rfl ?_)
    exact Post.ret2c rfl rfl rfl hR2 rfl ⟨_, rfl, hw, ⟨⟨some ⟨g, 0, none⟩, 2, c⟩, m, cp, .nil, lv⟩, rfl, (hR'.grT hG rfl).join (hZ'.grT hG rfl) ecp⟩

set_option maxHeartbeats 2000000 in
theorem DrainedOf_ans (r : HRow) (h : Heap) (w : World) (hr : RdH w r h) (hs : h.small) (hzn : ∀ z ∈ h.Zones, big64 z) :
    Ans Try.prog 61 [.agg (encH r).toArray] w (HeapOut w.heap.size (drainV h)) := by
  refine ans_of Try.func61 rfl Try.ntmps61 rfl ?_
  refine CW.seq (CW.region (SW.box rfl rfl fun b1 w1 hw hb1b hb1 => ?_))
  refine SW.alloc rfl fun b2 w2 hw2 hb2b hb2 => ?_
  have hb2w : w.heap.size ≤ b2 := Nat.le_trans hw.size hb2b
  (replace hw := Ext.trans hw hw2; replace hb1 := hb1.ext hw2)
  obtain ⟨q, hq⟩ : ∃ q, heapB h = q := ⟨_, rfl⟩
  have c1 : ∀ w', Ext w w' → Ans Try.prog 44 [.agg (encH r).toArray] w' fun v _ => v = .bool q := fun w' hx => by
    have := HMay_ans r h w' (hr.ext hx) hs hzn
    rwa [hq] at this
  cases q
  · rw [drainV_8 hq]
    repeat' (first | (show CW _ _ _ _ _ _; first | refine CW.seq ?_ | refine CW.region ?_ | refine CW.condt rfl ?_) | (show Post _ _ _ _ _; refine Post.seq ?_) | refine SW.nil ?_ | refine SW.pure rfl rfl ?_ | (show SW _ _ _ _ (⟨_, Op.build _ _, _, _, _, none⟩ :: _) _ _; refine SW.st (st_build rfl rfl) rfl ?_) | (show SW _ _ _ _ (⟨_, Op.load _ _, _, _, _, none⟩ :: _) _ _; refine SW.st (st_loads rfl rfl ((fun _ _ => hb1.cell))) rfl ?_) | (show SW _ _ _ _ (⟨_, Op.call ⟨.value (.func _), _, _⟩, _, _, _, none⟩ :: _) _ _; (refine SW.call rfl rfl (c1 _ hw) ?_; intro v w1 hw1 hv; subst hv; replace hw := Ext.trans hw hw1; replace hb1 := hb1.ext hw1; replace hb2 := hb2.ext hw1; clear hw1)))
    refine SW.storeAgg hb2 rfl rfl rfl rfl (one_h .zero) fun w5 hR2 hg => ?_
    replace hw := hw.own hb2w hg
    repeat' (first | (show CW _ _ _ _ _ _; refine CW.ret ?_) | (show Post _ _ _ _ _; first | refine Post.seq ?_ | refine Post.seq_ret ?_) | refine SW.nil ?_ | refine SW.pure rfl rfl ?_)
    exact Post.ret2c rfl rfl rfl hR2 rfl ⟨_, rfl, hw, HeapOut.zero 8 _ _⟩
  · have hm := heapB_iff.1 hq
    obtain ⟨z0, z1, hd⟩ := dheap_of hm
    rw [drainV_0 hq hd.zones]
    repeat' (first | (show CW _ _ _ _ _ _; first | refine CW.seq ?_ | refine CW.region ?_ | refine CW.condf rfl ?_ | refine CW.skip ?_) | (show Post _ _ _ _ _; refine Post.seq ?_) | refine SW.nil ?_ | refine SW.pure rfl rfl ?_ | (show SW _ _ _ _ (⟨_, Op.load _ _, _, _, _, none⟩ :: _) _ _; refine SW.st (st_loads rfl rfl ((fun _ _ => hb1.cell))) rfl ?_) | (show SW _ _ _ _ (⟨_, Op.call ⟨.value (.func _), _, _⟩, _, _, _, none⟩ :: _) _ _; (refine SW.call rfl rfl (c1 _ hw) ?_; intro v w1 hw1 hv; subst hv; replace hw := Ext.trans hw hw1; replace hb1 := hb1.ext hw1; replace hb2 := hb2.ext hw1; clear hw1)))
    refine SW.call rfl rfl (HeapCopy_ans r h _ (hr.ext hw) hs) fun v w4 hw4 hv => ?_
    obtain ⟨s, rfl, hO⟩ := hv
    replace hO := hO.low hw.size
    (replace hw := Ext.trans hw hw4; replace hb1 := hb1.ext hw4; replace hb2 := hb2.ext hw4)
    clear c1
    obtain ⟨g, c, u0, u1, ls, eZ, hZ, hR⟩ := hO.split hd.zones
    have ecp := hO.cpus
    clear hO
    obtain ⟨sz, m, cp, li, lv⟩ := s
    simp only at eZ hR ecp
    subst eZ
    have hg2 : b2 ≠ g := fun e => hZ.row.ne_blk hb2 rfl (by rw [hZ.own, e])
    refine SW.callX rfl rfl (emptied_ans h z0 z1 hd hs m cp li lv ls u0 u1 g c w _ hw hZ hR) fun v w6 hv => ?_
    obtain ⟨rfl, hw', hE, hR', u2, u3, hZ'⟩ := hv
    replace hb2 := hE.blk hb2 hg2 hg2
    clear hw hb1 hR hZ hE
    have hw := hw'
    clear hw'
    refine SW.storeAgg hb2 rfl rfl rfl rfl (one_h ⟨⟨some ⟨g, 0, none⟩, 2, c⟩, m, cp, .nil, lv⟩) fun w7 hR2 hg => ?_
    have hG := hb2.gr hg
    replace hw := hw.own hb2w hg
    repeat' (first | (show CW _ _ _ _ _ _; refine CW.ret ?_) | (show Post _ _ _ _ _; refine Post.seq ?_) | refine SW.nil ?_ | refine SW.pure rfl rfl ?_)
    exact Post.ret2c rfl rfl rfl hR2 rfl ⟨_, rfl, hw, ⟨⟨some ⟨g, 0, none⟩, 2, c⟩, m, cp, .nil, lv⟩, rfl, (hR'.grT hG rfl).join (hZ'.grT hG rfl) ecp⟩

theorem may_len {z : Zone} (h : ZoneMay z) : z.Free.length * 24 ≤ 140737488355328 ∧ z.Types.length * 8 ≤ 140737488355328 := by
  have := zone_len h
  exact ⟨Nat.le_trans (Nat.mul_le_mul_right 24 this.1) (by decide), by omega⟩
theorem small_drainV (h : Heap) (hs : h.small) : (drainV h).2.small := by
  cases hq : heapB h
  · rw [drainV_8 hq]; constructor <;> simp
  · obtain ⟨z0, z1, hd⟩ := dheap_of (heapB_iff.1 hq)
    rw [drainV_0 hq hd.zones]
    have hI := hd.inv _ (Nat.le_refl _)
    rw [List.take_length] at hI
    refine ⟨by simp [drained], hs.mins, by simp [drained], hs.live, fun z hz => ?_, fun l hl => by simp [drained] at hl⟩
    simp only [drained, List.mem_cons, List.not_mem_nil, or_false] at hz
    rcases hz with rfl | rfl
    · exact may_len hI.may0
    · exact may_len hI.may1

set_option maxHeartbeats 2000000 in
theorem pagesDrains_ans (r : HRow) (h : Heap) (w : World) (hr : RdH w r h) (hs : h.small) (hzn : ∀ z ∈ h.Zones, big64 z) :
    Ans Try.prog 20 [.agg (encH r).toArray] w fun v _ => v = .bool true := by
  refine ans_of Try.func20 rfl Try.ntmps20 rfl ?_
  obtain ⟨o, ho⟩ : ∃ o, drainV h = o := ⟨_, rfl⟩
  have hsm := small_drainV h hs
  rw [ho] at hsm
  refine CW.seq (CW.region (SW.box rfl rfl fun b1 w1 hw hb1b hb1 => ?_))
  repeat' (first | (show CW _ _ _ _ _ _; first | refine CW.seq ?_ | refine CW.region ?_) | (show Post _ _ _ _ _; refine Post.seq ?_) | refine SW.nil ?_ | refine SW.pure rfl rfl ?_ | (show SW _ _ _ _ (⟨_, Op.load _ _, _, _, _, none⟩ :: _) _ _; refine SW.st (st_loads rfl rfl ((fun _ _ => hb1.cell))) rfl ?_))
  refine SW.call rfl rfl (HeapCopy_ans r h _ (hr.ext hw) hs) fun v w4 hw4 hv => ?_
  obtain ⟨k, rfl, hK⟩ := hv
  (replace hw := Ext.trans hw hw4; replace hb1 := hb1.ext hw4)
  refine SW.alloc rfl fun b3 w1 hw1 hb3b hb3 => ?_
  skip
  refine SW.storeAgg hb3 rfl rfl rfl rfl (one_h k) fun w2 hb3' hg => ?_
  have hXX := hw1.own hb3b hg
  have hb3w : w.heap.size ≤ b3 := Nat.le_trans hw.size hb3b
  replace hw := Ext.trans hw hXX
  replace hb1 := hb1.ext hXX
  replace hK := hK.ext hXX
  replace hb3 := hb3'
  clear hb3' hw1 hg hXX
  repeat' (first | (show CW _ _ _ _ _ _; first | refine CW.seq ?_ | refine CW.region ?_) | (show Post _ _ _ _ _; refine Post.seq ?_) | refine SW.nil ?_ | (show SW _ _ _ _ (⟨_, Op.load _ _, _, _, _, none⟩ :: _) _ _; refine SW.st (st_loads rfl rfl ((fun _ _ => hb3.cell))) rfl ?_))
  refine SW.call rfl rfl (Drain_ans k h _ hK.rd hs hzn) fun v w5 hw5 hv => ?_
  rw [ho] at hv
  obtain ⟨s1, rfl, hs1⟩ := hv
  (replace hw := Ext.trans hw hw5; replace hb1 := hb1.ext hw5; replace hb3 := hb3.ext hw5; replace hK := hK.ext hw5)
  repeat' (refine SW.pure rfl rfl ?_)
  refine SW.alloc rfl fun b4 w1 hw1 hb4b hb4 => ?_
  skip
  refine SW.storeAgg hb4 rfl rfl rfl rfl (one_h s1) fun w2 hb4' hg => ?_
  have hXX := hw1.own hb4b hg
  have hb4w : w.heap.size ≤ b4 := Nat.le_trans hw.size hb4b
  replace hw := Ext.trans hw hXX
  replace hb1 := hb1.ext hXX
  replace hb3 := hb3.ext hXX
  replace hK := hK.ext hXX
  replace hs1 := hs1.ext hXX
  replace hb4 := hb4'
  clear hb4' hw1 hg hXX
  repeat' (first | (show CW _ _ _ _ _ _; first | refine CW.seq ?_ | refine CW.region ?_) | (show Post _ _ _ _ _; refine Post.seq ?_) | refine SW.nil ?_ | refine SW.pure rfl rfl ?_ | (show SW _ _ _ _ (⟨_, Op.load _ _, _, _, _, none⟩ :: _) _ _; refine SW.st (st_loads rfl rfl ((fun _ _ => hb1.cell))) rfl ?_))
  refine SW.call rfl rfl (DrainedOf_ans r h _ (hr.ext hw) hs hzn) fun v w6 hw6 hv => ?_
  rw [ho] at hv
  obtain ⟨s2, rfl, hs2⟩ := hv
  (replace hw := Ext.trans hw hw6; replace hb1 := hb1.ext hw6; replace hb3 := hb3.ext hw6; replace hb4 := hb4.ext hw6; replace hK := hK.ext hw6; replace hs1 := hs1.ext hw6)
  repeat' (refine SW.pure rfl rfl ?_)
  refine SW.alloc rfl fun b6 w1 hw1 hb6b hb6 => ?_
  skip
  refine SW.storeAgg hb6 rfl rfl rfl rfl (one_h s2) fun w2 hb6' hg => ?_
  have hXX := hw1.own hb6b hg
  have hb6w : w.heap.size ≤ b6 := Nat.le_trans hw.size hb6b
  replace hw := Ext.trans hw hXX
  replace hb1 := hb1.ext hXX
  replace hb3 := hb3.ext hXX
  replace hb4 := hb4.ext hXX
  replace hK := hK.ext hXX
  replace hs1 := hs1.ext hXX
  replace hs2 := hs2.ext hXX
  replace hb6 := hb6'
  clear hb6' hw1 hg hXX
  have cA : ∀ w', Ext w w' → RdH w' s1 o.2 → RdH w' s2 o.2 → Ans Try.prog 24 [.agg (encH s1).toArray, .agg (encH s2).toArray] w' fun v _ => v = .bool true := fun w' _ h1 h2 => sameHeap_ans s1 s2 o.2 w' h1 h2 hsm
  have cB : ∀ w', Ext w w' → RdH w' k h → Ans Try.prog 24 [.agg (encH k).toArray, .agg (encH r).toArray] w' fun v _ => v = .bool true := fun w' hx h1 => sameHeap_ans k r h w' h1 (hr.ext hx) hs
  repeat' (first | (show CW _ _ _ _ _ _; first | refine CW.seq ?_ | refine CW.region ?_ | refine CW.ret ?_) | (show Post _ _ _ _ _; refine Post.seq ?_) | refine SW.nil ?_ | (show SW _ _ _ _ (⟨_, _, _, _, _, some _⟩ :: _) _ _; first | refine SW.want_t rfl rfl (by with_reducible rfl) ?_ | refine SW.splitd_t rfl rfl rfl (by omega) ?_) | refine SW.pure rfl rfl ?_ | (show SW _ _ _ _ (⟨_, Op.load _ _, _, _, _, none⟩ :: _) _ _; first | refine SW.st (st_loads rfl rfl ((fun _ _ => hb4.cell))) rfl ?_ | refine SW.st (st_loads rfl rfl ((fun _ _ => hb6.cell))) rfl ?_ | refine SW.st (st_loads rfl rfl ((fun _ _ => hb3.cell))) rfl ?_ | refine SW.st (st_loads rfl rfl ((fun _ _ => hb1.cell))) rfl ?_) | (show SW _ _ _ _ (⟨_, Op.call ⟨.value (.func _), _, _⟩, _, _, _, none⟩ :: _) _ _; first | (refine SW.call rfl rfl (cA _ hw hs1.rd hs2.rd) ?_; intro v w1 hw1 hv; subst hv; replace hw := Ext.trans hw hw1; replace hb1 := hb1.ext hw1; replace hb3 := hb3.ext hw1; replace hb4 := hb4.ext hw1; replace hb6 := hb6.ext hw1; replace hK := hK.ext hw1; replace hs1 := hs1.ext hw1; replace hs2 := hs2.ext hw1; clear hw1) | (refine SW.call rfl rfl (cB _ hw hK.rd) ?_; intro v w1 hw1 hv; subst hv; replace hw := Ext.trans hw hw1; replace hb1 := hb1.ext hw1; replace hb3 := hb3.ext hw1; replace hb4 := hb4.ext hw1; replace hb6 := hb6.ext hw1; replace hK := hK.ext hw1; replace hs1 := hs1.ext hw1; replace hs2 := hs2.ext hw1; clear hw1)))
  exact Post.ret1 rfl rfl ⟨_, rfl, hw, rfl⟩
end Go.Proofs.Ytfdmgflboibdoaa
