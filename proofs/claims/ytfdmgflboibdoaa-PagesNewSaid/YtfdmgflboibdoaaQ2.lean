/-
  Contracts: HeapNew of the reference; the law PagesNew.
-/
import Derived.Test.YtfdmgflboibdoaaQ1
import Derived.Test.YtfdmgflboibdoaaH3
import Derived.Test.YtfdmgflboibdoaaB3
set_option linter.unusedVariables false
namespace Go.Proofs.Ytfdmgflboibdoaa
open Go.RowKit

theorem BackS {w' : World} {lo : Nat} {r : ZRow} {z : Zone} (f s : Int) (h : OwnZ w' lo r z) (hs : SmallZ z) : Ans Try.prog 49 [.agg (encZ r).toArray, .int .i64 f, .int .i64 s] w' (ZoneOut w'.heap.size (backV z f s)) := by
  obtain ⟨h1, h2, h3, h4⟩ := h.small hs
  exact BackOf_ans r z f s w' h.rd h1 h2 h3 h4

set_option maxHeartbeats 4000000 in
theorem HeapNew_ans (A : Option Addr) (n c : Nat) (l : List Region) (split least cpus : Int) (w : World) (hl : Sl w 2 encR A n l) (hn : n ≤ 9223372036854775807) (hsp : -9223372036854775808 ≤ split ∧ split ≤ 9223372036854775807) :
    Ans Try.prog 58 [.slice A n c, .int .i64 split, .int .i64 least, .int .i64 cpus] w (HeapOut w.heap.size (heapNewV l split least cpus)) := by
  refine ans_of Try.func58 rfl Try.ntmps58 rfl ?_
  refine CW.seq (CW.region (SW.alloc rfl fun b8 w1 hw hb8b hb8 => ?_))
  have hb8w := hb8b
  obtain ⟨q, hq⟩ : ∃ q, regionsB l = q := ⟨_, rfl⟩
  have c1 : ∀ w', Ext w w' → Ans Try.prog 122 [.slice A n c] w' fun v _ => v = .bool q := fun w' h => by
    have := regionsMay_ans A n c l w' (hl.ext h) hn
    rwa [hq] at this
  cases q
  · rw [heapNewV_8 hq]
    repeat' (first | (show CW _ _ _ _ _ _; first | refine CW.seq ?_ | refine CW.region ?_ | refine CW.condt rfl ?_) | (show Post _ _ _ _ _; refine Post.seq ?_) | refine SW.nil ?_ | refine SW.pure rfl rfl ?_ | (show SW _ _ _ _ (⟨_, Op.build _ _, _, _, _, none⟩ :: _) _ _; refine SW.st (st_build rfl rfl) rfl ?_) | (show SW _ _ _ _ (⟨_, Op.call ⟨.value (.func _), _, _⟩, _, _, _, none⟩ :: _) _ _; (refine SW.call rfl rfl (c1 _ hw) ?_; intro v w1 hw1 hv; subst hv; replace hw := Ext.trans hw hw1; replace hb8 := hb8.ext hw1; clear hw1)))
    refine SW.storeAgg hb8 rfl rfl rfl rfl (one_h .zero) fun w5 hR2 hg => ?_
    replace hw := hw.own hb8w hg
    repeat' (first | (show CW _ _ _ _ _ _; refine CW.ret ?_) | (show Post _ _ _ _ _; first | refine Post.seq ?_ | refine Post.seq_ret ?_) | refine SW.nil ?_ | refine SW.pure rfl rfl ?_)
    exact Post.ret2c rfl rfl rfl hR2 rfl ⟨_, rfl, hw, HeapOut.zero 8 _ _⟩
  · have hok := regionsB_iff.1 hq
    repeat' (first | (show CW _ _ _ _ _ _; first | refine CW.seq ?_ | refine CW.region ?_ | refine CW.condf rfl ?_ | refine CW.skip ?_) | (show Post _ _ _ _ _; refine Post.seq ?_) | refine SW.nil ?_ | refine SW.pure rfl rfl ?_ | (show SW _ _ _ _ (⟨_, Op.call ⟨.value (.func _), _, _⟩, _, _, _, none⟩ :: _) _ _; (refine SW.call rfl rfl (c1 _ hw) ?_; intro v w1 hw1 hv; subst hv; replace hw := Ext.trans hw hw1; replace hb8 := hb8.ext hw1; clear hw1)))
    refine SW.call rfl rfl (ZoneNew_ans 0 split _ (by omega) hsp) fun v w4 hw4 hv => ?_
    obtain ⟨o1, ho1⟩ : ∃ o, zoneNewV 0 split = o := ⟨_, rfl⟩
    rw [ho1] at hv
    obtain ⟨u1, rfl, hs1⟩ := hv
    replace hs1 := hs1.low hw.size
    (replace hw := Ext.trans hw hw4; replace hb8 := hb8.ext hw4)
    clear c1
    have hlt8 := hb8.lt
    repeat' (refine SW.pure rfl rfl ?_)
    refine SW.alloc rfl fun b10 w1 hw1 hb10b hb10 => ?_
    skip
    refine SW.storeAgg hb10 rfl rfl rfl rfl (one_z u1) fun w2 hb10' hg => ?_
    have hXX := hw1.own hb10b hg
    have hb10w : w.heap.size ≤ b10 := Nat.le_trans hw.size hb10b
    replace hw := Ext.trans hw hXX
    replace hb8 := hb8.ext hXX
    replace hs1 := hs1.ext hXX
    replace hb10 := hb10'
    clear hb10' hw1 hg hXX
    have hne810 : b8 ≠ b10 := by omega
    by_cases hz : zoneOk 0 split
    · have g1 : o1.1 = 0 := by rw [← ho1, zoneNewV_t hz]
      rw [g1]
      by_cases ha : newArgs split least cpus
      · obtain ⟨_, ⟨a1, a2⟩, a3, a4⟩ := id ha
        obtain ⟨z1, z2, z3, z4, z5⟩ := id hz
        rw [heapNewV_0 hq ha]
        repeat' (first | (show CW _ _ _ _ _ _; first | refine CW.seq ?_ | refine CW.region ?_ | refine CW.condn_f rfl (by omega) ?_ | refine CW.skip ?_) | (show Post _ _ _ _ _; refine Post.seq ?_) | refine SW.nil ?_ | (show SW _ _ _ _ (⟨_, _, _, _, _, some _⟩ :: _) _ _; first | refine SW.want_f rfl rfl (by with_reducible rfl) ?_ | refine SW.splitn_f rfl rfl rfl (by omega) ?_) | refine SW.pure rfl rfl ?_ | (show SW _ _ _ _ (⟨_, Op.call ⟨.value (.func _), _, _⟩, _, _, _, none⟩ :: _) _ _; (refine SW.call rfl rfl (In_ans _ _ _ _) ?_; intro v w1 hw1 hv; subst hv; replace hw := Ext.trans hw hw1; replace hb8 := hb8.ext hw1; replace hb10 := hb10.ext hw1; replace hs1 := hs1.ext hw1; clear hw1)))
        all_goals first | (exfalso; omega) | skip
        refine SW.call rfl rfl (ZoneNew_ans split 256 _ hsp (by omega)) fun v w4 hw4 hv => ?_
        obtain ⟨o2, ho2⟩ : ∃ o, zoneNewV split 256 = o := ⟨_, rfl⟩
        rw [ho2] at hv
        obtain ⟨u2, rfl, hs2⟩ := hv
        replace hs2 := hs2.low hw.size
        (replace hw := Ext.trans hw hw4; replace hb8 := hb8.ext hw4; replace hb10 := hb10.ext hw4; replace hs1 := hs1.ext hw4)
        repeat' (refine SW.pure rfl rfl ?_)
        have hlt10 := hb10.lt
        have hne8 := hb8.lt
        refine SW.alloc rfl fun b12 w1 hw1 hb12b hb12 => ?_
        skip
        refine SW.storeAgg hb12 rfl rfl rfl rfl (one_z u2) fun w2 hb12' hg => ?_
        have hXX := hw1.own hb12b hg
        have hb12w : w.heap.size ≤ b12 := Nat.le_trans hw.size hb12b
        replace hw := Ext.trans hw hXX
        replace hb8 := hb8.ext hXX
        replace hb10 := hb10.ext hXX
        replace hs1 := hs1.ext hXX
        replace hs2 := hs2.ext hXX
        replace hb12 := hb12'
        clear hb12' hw1 hg hXX
        have hne1012 : b10 ≠ b12 := by omega
        have hne812 : b8 ≠ b12 := by omega
        repeat' (first | (show CW _ _ _ _ _ _; first | refine CW.seq ?_ | refine CW.region ?_ | refine CW.block ?_) | (show Post _ _ _ _ _; refine Post.seq ?_) | refine SW.nil ?_ | refine SW.pure rfl rfl ?_)
        have i1 : o1.2 = (newZ l split 0).1 := by rw [← ho1]; rfl
        have i2 : o2.2 = (newZ l split 0).2 := by rw [← ho2]; rfl
        rw [i1] at hs1
        rw [i2] at hs2
        obtain ⟨N, hN⟩ : ∃ N : Nat, N = 256 := ⟨_, rfl⟩
        refine CW.loop (fun t : Nat × ZRow × ZRow => [(0, .slice A n c), (1, .int .i64 split), (2, .int .i64 least), (3, .int .i64 cpus), (8, .pointer (some ⟨b8, 0, none⟩)), (10, .pointer (some ⟨b10, 0, none⟩)), (12, .pointer (some ⟨b12, 0, none⟩)), (14, .int .i64 (t.1 : Int))])
          (fun t w' => t.1 ≤ N ∧ Ext w w' ∧ Blk w' b8 27 (encH .zero) ∧ Blk w' b10 38 (encZ t.2.1) ∧ Blk w' b12 38 (encZ t.2.2) ∧ OwnZ w' w.heap.size t.2.1 (newZ l split t.1).1 ∧ OwnZ w' w.heap.size t.2.2 (newZ l split t.1).2) (fun t => N - t.1) (0, u1, u2)
          ⟨rfl, rfl, rfl, rfl, rfl, rfl, rfl, rfl, trivial⟩ ⟨by omega, hw, hb8, hb10, hb12, hs1, hs2⟩ ?_
        clear hw hb8 hb10 hb12 hs1 hs2
        rintro ⟨k, u1, u2⟩ w' ⟨hk, hw, hb8, hb10, hb12, hs1, hs2⟩
        simp only at hk hb10 hb12 hs1 hs2 ⊢
        have hm := small_newZ (l := l) hz k
        by_cases hkn : k < N
        · obtain ⟨e, he⟩ : ∃ e, inReg l (k : Int) = e := ⟨_, rfl⟩
          have cI : ∀ w', Ext w w' → Ans Try.prog 90 [.slice A n c, .int .i64 (k : Int)] w' fun v _ => v = .bool e := fun w' h => by
            have := inRegions_ans A n c l (k : Int) w' (hl.ext h) (fun r hr => by obtain ⟨i, hi, rfl⟩ := List.getElem_of_mem hr; exact (hok.2 i hi).1) hn
            rwa [he] at this
          cases e
          · repeat' (first | (show CW _ _ _ _ _ _; first | refine CW.seq ?_ | refine CW.region ?_ | refine CW.block ?_ | refine CW.condd_t rfl (by omega) ?_ | refine CW.condt rfl ?_ | refine CW.skip ?_ | refine CW.exit ?_) | (show Post _ _ _ _ _; first | refine Post.seq ?_ | refine Post.seq_exit ?_ | refine Post.hit ?_) | refine SW.nil ?_ | refine SW.pure rfl rfl ?_ | (show SW _ _ _ _ (⟨_, Op.binOp _ _ _ _ _, _, _, _, none⟩ :: _) _ _; refine SW.st (st_add rfl rfl (by omega) (by omega)) rfl ?_) | (show SW _ _ _ _ (⟨_, Op.call ⟨.value (.func _), _, _⟩, _, _, _, none⟩ :: _) _ _; (refine SW.call rfl rfl (cI _ hw) ?_; intro v w1 hw1 hv; subst hv; replace hw := Ext.trans hw hw1; replace hb8 := hb8.ext hw1; replace hb10 := hb10.ext hw1; replace hb12 := hb12.ext hw1; replace hs1 := hs1.ext hw1; replace hs2 := hs2.ext hw1; clear hw1)))
            have en : newZ l split (k + 1) = newZ l split k := by rw [newZ, he, if_neg (by simp)]
            exact Post.again (k + 1, u1, u2) ⟨rfl, rfl, rfl, rfl, rfl, rfl, rfl, rfl, trivial⟩ (by simp only; omega) ⟨by simp only; omega, hw, hb8, hb10, hb12, by simp only; rw [en]; exact hs1, by simp only; rw [en]; exact hs2⟩
          · by_cases hks : (k : Int) < split
            · have en : newZ l split (k + 1) = (stepZ (newZ l split k).1 k, (newZ l split k).2) := by rw [newZ, he, if_pos rfl, if_pos hks]
              repeat' (first | (show CW _ _ _ _ _ _; first | refine CW.seq ?_ | refine CW.region ?_ | refine CW.block ?_ | refine CW.condd_t rfl (by omega) ?_ | refine CW.condf rfl ?_ | refine CW.skip ?_) | (show Post _ _ _ _ _; refine Post.seq ?_) | refine SW.nil ?_ | refine SW.pure rfl rfl ?_ | (show SW _ _ _ _ (⟨_, Op.load _ _, _, _, _, none⟩ :: _) _ _; refine SW.st (st_loads rfl rfl ((fun _ _ => hb10.cell))) rfl ?_) | (show SW _ _ _ _ (⟨_, Op.call ⟨.value (.func _), _, _⟩, _, _, _, none⟩ :: _) _ _; (refine SW.call rfl rfl (cI _ hw) ?_; intro v w1 hw1 hv; subst hv; replace hw := Ext.trans hw hw1; replace hb8 := hb8.ext hw1; replace hb10 := hb10.ext hw1; replace hb12 := hb12.ext hw1; replace hs1 := hs1.ext hw1; replace hs2 := hs2.ext hw1; clear hw1)))
              refine SW.call rfl rfl (BackS (k : Int) 0 hs1 hm.1) fun v w4 hw4 hv => ?_
              obtain ⟨u3, rfl, hs3⟩ := hv
              replace hs3 := hs3.low hw.size
              (replace hw := Ext.trans hw hw4; replace hb8 := hb8.ext hw4; replace hb10 := hb10.ext hw4; replace hb12 := hb12.ext hw4; replace hs1 := hs1.ext hw4; replace hs2 := hs2.ext hw4)
              repeat' (refine SW.pure rfl rfl ?_)
              refine SW.storeAgg hb10 rfl rfl rfl rfl (one_z u3) fun w5 hb10' hg => ?_
              replace hw := hw.own hb10w hg
              replace hs2 := hs2.blk hb10 hg rfl rfl
              replace hs3 := hs3.blk hb10 hg rfl rfl
              replace hb8 := hb8.grown hg (by simpa using hne810)
              replace hb12 := hb12.grown hg (by simpa using Ne.symm hne1012)
              repeat' (first | (show CW _ _ _ _ _ _; refine CW.region ?_) | (show Post _ _ _ _ _; first | refine Post.seq ?_ | refine Post.blk ?_) | refine SW.nil ?_ | refine SW.pure rfl rfl ?_ | (show SW _ _ _ _ (⟨_, Op.binOp _ _ _ _ _, _, _, _, none⟩ :: _) _ _; refine SW.st (st_add rfl rfl (by omega) (by omega)) rfl ?_))
              exact Post.again (k + 1, u3, u2) ⟨rfl, rfl, rfl, rfl, rfl, rfl, rfl, rfl, trivial⟩ (by simp only; omega) ⟨by simp only; omega, hw, hb8, hb10', hb12, by simp only; rw [en]; exact hs3, by simp only; rw [en]; exact hs2⟩
            · have en : newZ l split (k + 1) = ((newZ l split k).1, stepZ (newZ l split k).2 k) := by rw [newZ, he, if_pos rfl, if_neg hks]
              repeat' (first | (show CW _ _ _ _ _ _; first | refine CW.seq ?_ | refine CW.region ?_ | refine CW.block ?_ | refine CW.condd_t rfl (by omega) ?_ | refine CW.condd_f rfl (by omega) ?_ | refine CW.condf rfl ?_ | refine CW.skip ?_) | (show Post _ _ _ _ _; refine Post.seq ?_) | refine SW.nil ?_ | refine SW.pure rfl rfl ?_ | (show SW _ _ _ _ (⟨_, Op.load _ _, _, _, _, none⟩ :: _) _ _; refine SW.st (st_loads rfl rfl ((fun _ _ => hb12.cell))) rfl ?_) | (show SW _ _ _ _ (⟨_, Op.call ⟨.value (.func _), _, _⟩, _, _, _, none⟩ :: _) _ _; (refine SW.call rfl rfl (cI _ hw) ?_; intro v w1 hw1 hv; subst hv; replace hw := Ext.trans hw hw1; replace hb8 := hb8.ext hw1; replace hb10 := hb10.ext hw1; replace hb12 := hb12.ext hw1; replace hs1 := hs1.ext hw1; replace hs2 := hs2.ext hw1; clear hw1)))
              refine SW.call rfl rfl (BackS (k : Int) 0 hs2 hm.2) fun v w4 hw4 hv => ?_
              obtain ⟨u3, rfl, hs3⟩ := hv
              replace hs3 := hs3.low hw.size
              (replace hw := Ext.trans hw hw4; replace hb8 := hb8.ext hw4; replace hb10 := hb10.ext hw4; replace hb12 := hb12.ext hw4; replace hs1 := hs1.ext hw4; replace hs2 := hs2.ext hw4)
              repeat' (refine SW.pure rfl rfl ?_)
              refine SW.storeAgg hb12 rfl rfl rfl rfl (one_z u3) fun w5 hb12' hg => ?_
              replace hw := hw.own hb12w hg
              replace hs1 := hs1.blk hb12 hg rfl rfl
              replace hs3 := hs3.blk hb12 hg rfl rfl
              replace hb8 := hb8.grown hg (by simpa using hne812)
              replace hb10 := hb10.grown hg (by simpa using hne1012)
              repeat' (first | (show CW _ _ _ _ _ _; refine CW.region ?_) | (show Post _ _ _ _ _; first | refine Post.seq ?_ | refine Post.blk ?_) | refine SW.nil ?_ | refine SW.pure rfl rfl ?_ | (show SW _ _ _ _ (⟨_, Op.binOp _ _ _ _ _, _, _, _, none⟩ :: _) _ _; refine SW.st (st_add rfl rfl (by omega) (by omega)) rfl ?_))
              exact Post.again (k + 1, u1, u3) ⟨rfl, rfl, rfl, rfl, rfl, rfl, rfl, rfl, trivial⟩ (by simp only; omega) ⟨by simp only; omega, hw, hb8, hb10, hb12', by simp only; rw [en]; exact hs1, by simp only; rw [en]; exact hs3⟩
        · have ek : k = 256 := by omega
          subst ek
          repeat' (first | (show CW _ _ _ _ _ _; first | refine CW.seq ?_ | refine CW.region ?_ | refine CW.condd_f rfl (by omega) ?_ | refine CW.exit ?_) | (show Post _ _ _ _ _; first | refine Post.seq ?_ | refine Post.seq_exit ?_ | refine Post.hit ?_ | refine Post.again_exit ?_) | refine SW.nil ?_ | refine SW.pure rfl rfl ?_ | (show SW _ _ _ _ (⟨_, Op.load _ _, _, _, _, none⟩ :: _) _ _; first | refine SW.st (st_loads rfl rfl ((fun _ _ => hb10.cell))) rfl ?_ | refine SW.st (st_loads rfl rfl ((fun _ _ => hb12.cell))) rfl ?_))
          refine SW.build2 (enc := encZ) u1 u2 rfl rfl rfl rfl rfl rfl fun g w2 hg2 hgw hZ => ?_
          replace hZ := hZ.low hw.size
          (replace hw := Ext.trans hw hg2; replace hb8 := hb8.ext hg2; replace hs1 := hs1.ext hg2; replace hs2 := hs2.ext hg2)
          repeat' (refine SW.pure rfl rfl ?_)
          refine SW.build2 (enc := encI) least least rfl rfl rfl rfl rfl rfl fun g' w3 hg3 hgw' hM => ?_
          replace hM := hM.low hw.size
          (replace hw := Ext.trans hw hg3; replace hb8 := hb8.ext hg3; replace hs1 := hs1.ext hg3; replace hs2 := hs2.ext hg3; replace hZ := hZ.ext hg3)
          repeat' (first | refine SW.pure rfl rfl ?_ | (show SW _ _ _ _ (⟨_, Op.build _ _, _, _, _, none⟩ :: _) _ _; refine SW.st (st_build rfl rfl) rfl ?_))
          refine SW.storeAgg hb8 rfl rfl rfl rfl (one_h ⟨⟨some ⟨g, 0, none⟩, 2, 2⟩, ⟨some ⟨g', 0, none⟩, 2, 2⟩, cpus, .nil, .nil⟩) fun w5 hR2 hg => ?_
          replace hw := hw.own hb8w hg
          replace hs1 := hs1.blk hb8 hg rfl rfl
          replace hs2 := hs2.blk hb8 hg rfl rfl
          replace hZ := hZ.grown hg (.inr (hZ.ne_blk hb8 rfl))
          replace hM := hM.grown hg (.inr (hM.ne_blk hb8 rfl))
          repeat' (first | (show CW _ _ _ _ _ _; refine CW.ret ?_) | (show Post _ _ _ _ _; refine Post.seq ?_) | refine SW.nil ?_ | refine SW.pure rfl rfl ?_)
          exact Post.ret2c rfl rfl rfl hR2 rfl ⟨_, rfl, hw, ⟨⟨some ⟨g, 0, none⟩, 2, 2⟩, ⟨some ⟨g', 0, none⟩, 2, 2⟩, cpus, .nil, .nil⟩, rfl, ⟨rfl, hM, Own.nil_ _ _ _ _ _ _, ⟨[u1, u2], ⟨hZ, All2.two hs1 hs2⟩⟩, ⟨[], .nil _ _⟩⟩⟩
      · rw [heapNewV_1 hq ha]
        have ha' : ¬ ((0 ≤ least ∧ least ≤ 256) ∧ 1 ≤ cpus ∧ cpus ≤ 4) := fun h => ha ⟨hz, h⟩
        repeat' (first | (show CW _ _ _ _ _ _; first | refine CW.seq ?_ | refine CW.region ?_ | refine CW.condtr rfl (by with_reducible rfl) ?_ | refine CW.condn_t rfl (by omega) ?_) | (show Post _ _ _ _ _; refine Post.seq ?_) | refine SW.nil ?_ | (show SW _ _ _ _ (⟨_, _, _, _, _, some _⟩ :: _) _ _; first | refine SW.want_f rfl rfl (by with_reducible rfl) ?_ | refine SW.skip_f rfl rfl (by with_reducible rfl) rfl ?_ | refine SW.splitn_f rfl rfl rfl (by omega) ?_ | refine SW.splitn rfl rfl rfl (fun h => ?_) (fun h => ?_)) | refine SW.pure rfl rfl ?_ | (show SW _ _ _ _ (⟨_, Op.build _ _, _, _, _, none⟩ :: _) _ _; refine SW.st (st_build rfl rfl) rfl ?_) | (show SW _ _ _ _ (⟨_, Op.call ⟨.value (.func _), _, _⟩, _, _, _, none⟩ :: _) _ _; (refine SW.call rfl rfl (In_ans _ _ _ _) ?_; intro v w1 hw1 hv; subst hv; replace hw := Ext.trans hw hw1; replace hb8 := hb8.ext hw1; clear hw1)))
        all_goals first | (exfalso; omega) | skip
        all_goals
          refine SW.storeAgg hb8 rfl rfl rfl rfl (one_h .zero) fun w5 hR2 hg => ?_
          replace hw := hw.own hb8w hg
          repeat' (first | (show CW _ _ _ _ _ _; refine CW.ret ?_) | (show Post _ _ _ _ _; first | refine Post.seq ?_ | refine Post.seq_ret ?_) | refine SW.nil ?_ | refine SW.pure rfl rfl ?_)
          exact Post.ret2c rfl rfl rfl hR2 rfl ⟨_, rfl, hw, HeapOut.zero 1 _ _⟩
    · have g1 : o1.1 = 1 := by rw [← ho1, zoneNewV_f hz]
      rw [g1, heapNewV_1 hq (fun h => hz h.1)]
      repeat' (first | (show CW _ _ _ _ _ _; first | refine CW.seq ?_ | refine CW.region ?_ | refine CW.condtr rfl (by with_reducible rfl) ?_) | (show Post _ _ _ _ _; refine Post.seq ?_) | refine SW.nil ?_ | (show SW _ _ _ _ (⟨_, _, _, _, _, some _⟩ :: _) _ _; first | refine SW.skip_f rfl rfl (by with_reducible rfl) rfl ?_ | refine SW.splitn_t rfl rfl rfl (by omega) ?_) | refine SW.pure rfl rfl ?_ | (show SW _ _ _ _ (⟨_, Op.build _ _, _, _, _, none⟩ :: _) _ _; refine SW.st (st_build rfl rfl) rfl ?_))
      refine SW.storeAgg hb8 rfl rfl rfl rfl (one_h .zero) fun w5 hR2 hg => ?_
      replace hw := hw.own hb8w hg
      repeat' (first | (show CW _ _ _ _ _ _; refine CW.ret ?_) | (show Post _ _ _ _ _; first | refine Post.seq ?_ | refine Post.seq_ret ?_) | refine SW.nil ?_ | refine SW.pure rfl rfl ?_)
      exact Post.ret2c rfl rfl rfl hR2 rfl ⟨_, rfl, hw, HeapOut.zero 1 _ _⟩

theorem small_heapNewV (l : List Region) (split least cpus : Int) : (heapNewV l split least cpus).2.small := by
  cases hq : regionsB l
  · rw [heapNewV_8 hq]; constructor <;> simp
  · by_cases ha : newArgs split least cpus
    · rw [heapNewV_0 hq ha]
      obtain ⟨h1, h2⟩ := small_newZ (l := l) ha.1 256
      constructor <;> simp [heapOf]
      exact ⟨⟨by have := h1.free; omega, by have := h1.types; omega⟩, by have := h2.free; omega, by have := h2.types; omega⟩
    · rw [heapNewV_1 hq ha]; constructor <;> simp

theorem pagesNew_ans (A : Option Addr) (n c : Nat) (l : List Region) (split least cpus : Int) (w : World) (hl : Sl w 2 encR A n l) (hn : n * 16 ≤ 140737488355328) (hsp : -9223372036854775808 ≤ split ∧ split ≤ 9223372036854775807) :
    Ans Try.prog 19 [.slice A n c, .int .i64 split, .int .i64 least, .int .i64 cpus] w fun v _ => v = .bool true := by
  refine ans_of Try.func19 rfl Try.ntmps19 rfl ?_
  have hw := Ext.refl w
  obtain ⟨o, ho⟩ : ∃ o, heapNewV l split least cpus = o := ⟨_, rfl⟩
  have hsm := small_heapNewV l split least cpus
  rw [ho] at hsm
  repeat' (first | (show CW _ _ _ _ _ _; first | refine CW.seq ?_ | refine CW.region ?_) | (show Post _ _ _ _ _; refine Post.seq ?_) | refine SW.nil ?_ | refine SW.pure rfl rfl ?_)
  refine SW.append0 (enc := encR) (hl.ext hw) rfl rfl rfl hn (by omega) fun A1 c1 w2 hw2 hO => ?_
  (replace hw := Ext.trans hw hw2)
  repeat' (refine SW.pure rfl rfl ?_)
  refine SW.call rfl rfl (Hnew_ans A1 n c1 l split least cpus _ hO.sl (by omega) hsp) fun v w4 hw4 hv => ?_
  rw [ho] at hv
  obtain ⟨s1, rfl, hs1⟩ := hv
  (replace hw := Ext.trans hw hw4)
  repeat' (refine SW.pure rfl rfl ?_)
  refine SW.alloc rfl fun b9 w1 hw1 hb9b hb9 => ?_
  skip
  refine SW.storeAgg hb9 rfl rfl rfl rfl (one_h s1) fun w2 hb9' hg => ?_
  have hXX := hw1.own hb9b hg
  have hb9w : w.heap.size ≤ b9 := Nat.le_trans hw.size hb9b
  replace hw := Ext.trans hw hXX
  replace hs1 := hs1.ext hXX
  replace hb9 := hb9'
  clear hb9' hw1 hg hXX
  repeat' (first | (show CW _ _ _ _ _ _; first | refine CW.seq ?_ | refine CW.region ?_) | (show Post _ _ _ _ _; refine Post.seq ?_) | refine SW.nil ?_ | refine SW.pure rfl rfl ?_)
  refine SW.call rfl rfl (HeapNew_ans A n c l split least cpus _ (hl.ext hw) (by omega) hsp) fun v w4 hw4 hv => ?_
  rw [ho] at hv
  obtain ⟨s2, rfl, hs2⟩ := hv
  (replace hw := Ext.trans hw hw4; replace hb9 := hb9.ext hw4; replace hs1 := hs1.ext hw4)
  repeat' (refine SW.pure rfl rfl ?_)
  refine SW.alloc rfl fun b11 w1 hw1 hb11b hb11 => ?_
  skip
  refine SW.storeAgg hb11 rfl rfl rfl rfl (one_h s2) fun w2 hb11' hg => ?_
  have hXX := hw1.own hb11b hg
  have hb11w : w.heap.size ≤ b11 := Nat.le_trans hw.size hb11b
  replace hw := Ext.trans hw hXX
  replace hb9 := hb9.ext hXX
  replace hs1 := hs1.ext hXX
  replace hs2 := hs2.ext hXX
  replace hb11 := hb11'
  clear hb11' hw1 hg hXX
  repeat' (first | (show CW _ _ _ _ _ _; first | refine CW.seq ?_ | refine CW.region ?_ | refine CW.ret ?_) | (show Post _ _ _ _ _; refine Post.seq ?_) | refine SW.nil ?_ | (show SW _ _ _ _ (⟨_, _, _, _, _, some _⟩ :: _) _ _; first | refine SW.want_t rfl rfl (by with_reducible rfl) ?_ | refine SW.splitd_t rfl rfl rfl (by omega) ?_) | refine SW.pure rfl rfl ?_ | (show SW _ _ _ _ (⟨_, Op.load _ _, _, _, _, none⟩ :: _) _ _; first | refine SW.st (st_loads rfl rfl ((fun _ _ => hb9.cell))) rfl ?_ | refine SW.st (st_loads rfl rfl ((fun _ _ => hb11.cell))) rfl ?_) | (show SW _ _ _ _ (⟨_, Op.call ⟨.value (.func _), _, _⟩, _, _, _, none⟩ :: _) _ _; (refine SW.call rfl rfl (sameHeap_ans s1 s2 o.2 _ hs1.rd hs2.rd hsm) ?_; intro v w1 hw1 hv; subst hv; replace hw := Ext.trans hw hw1; replace hb9 := hb9.ext hw1; replace hb11 := hb11.ext hw1; clear hw1)))
  exact Post.ret1 rfl rfl ⟨_, rfl, hw, rfl⟩
end Go.Proofs.Ytfdmgflboibdoaa
