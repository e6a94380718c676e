/-
  Contracts: BackOf; the law BuddyBacks.
-/
import Derived.Test.YtfommgdbahemfaaDoorI4
set_option linter.unusedVariables false
namespace Go.Proofs.YtfommgdbahemfaaDoor
open Go.RowKit

theorem JOk.ne_at {f t : Int} {l : List Block} {a o : Int} (h : JOk f t l a o) : ∀ x ∈ l, x.At ≠ a := fun x hx e => by
  have h1 := h.dis x hx
  have h2 := (h.blk x hx).1
  have := pw_le h2.1 h2.2.1
  have := pw_le h.fit.1 h.fit.2.1
  omega

set_option maxHeartbeats 8000000 in
theorem BackOf_ans (r : ZRow) (z : Zone) (a o : Int) (w : World) (hr : RdZ w r z) (hf : (r.Free.n + 1) * 24 ≤ 140737488355328) (ht : r.Types.n * 8 ≤ 140737488355328) (h1 : -9223372036854775808 ≤ r.From ∧ r.From ≤ 9223372036854775807) (h2 : -9223372036854775808 ≤ r.To ∧ r.To ≤ 9223372036854775807) :
    Ans Tryd.prog 128 [.agg (encZ r).toArray, .int .i64 a, .int .i64 o] w (ZoneOut w.heap.size (backV z a o)) := by
  refine ans_of Tryd.func128 rfl Tryd.ntmps128 rfl ?_
  refine CW.seq (CW.region (SW.box rfl rfl fun b3 w1 hw hb3b hb3 => ?_))
  refine SW.alloc rfl fun b6 w2 hw2 hb6b hb6 => ?_
  have hb6w : w.heap.size ≤ b6 := Nat.le_trans hw.size hb6b
  (replace hw := Ext.trans hw hw2; replace hb3 := hb3.ext hw2)
  have eF := hr.from_
  have eT := hr.to_
  have hFl := hr.free.len
  have hTl := hr.types.len
  obtain ⟨q, hq⟩ : ∃ q, zoneB z = q := ⟨_, rfl⟩
  have c1 : ∀ w', Ext w w' → Ans Tryd.prog 26 [.agg (encZ r).toArray] w' fun v _ => v = .bool q := fun w' h => by
    have := ZoneMay_ans r z w' (hr.ext h) (by omega) (by omega) h1 h2
    rwa [hq] at this
  cases q
  · rw [backV_8 hq]
    repeat' (first | (show CW _ _ _ _ _ _; first | refine CW.seq ?_ | refine CW.region ?_ | refine CW.condt rfl ?_) | (show Post _ _ _ _ _; refine Post.seq ?_) | refine SW.nil ?_ | refine SW.pure rfl rfl ?_ | (show SW _ _ _ _ (⟨_, Op.build _ _, _, _, _, none⟩ :: _) _ _; refine SW.st (st_build rfl rfl) rfl ?_) | (show SW _ _ _ _ (⟨_, Op.load _ _, _, _, _, none⟩ :: _) _ _; refine SW.st (st_loads rfl rfl ((fun _ _ => hb3.cell))) rfl ?_) | (show SW _ _ _ _ (⟨_, Op.call ⟨.value (.func _), _, _⟩, _, _, _, none⟩ :: _) _ _; (refine SW.call rfl rfl (c1 _ hw) ?_; intro v w1 hw1 hv; subst hv; replace hw := Ext.trans hw hw1; replace hb3 := hb3.ext hw1; replace hb6 := hb6.ext hw1; clear hw1)))
    refine SW.storeAgg hb6 rfl rfl rfl rfl (one_z .zero) fun w5 hR2 hg => ?_
    replace hw := hw.own hb6w hg
    repeat' (first | (show CW _ _ _ _ _ _; refine CW.ret ?_) | (show Post _ _ _ _ _; first | refine Post.seq ?_ | refine Post.seq_ret ?_) | refine SW.nil ?_ | refine SW.pure rfl rfl ?_)
    exact Post.ret2c rfl rfl rfl hR2 rfl ⟨_, rfl, hw, .zero, rfl, OwnZ.zero _ _⟩
  · have hz := zoneB_iff.1 hq
    obtain ⟨o1, o2, o3, o4, o5⟩ := hz.ok
    have cF : ∀ w', Ans Tryd.prog 65 [.agg (encZ r).toArray, .int .i64 a, .int .i64 o] w' fun v _ => v = .bool (decide (fitsZ z.From z.To a o)) := fun w' => by
      have := blockMay_ans r a o w' ⟨by omega, by omega⟩ ⟨by omega, by omega⟩
      rwa [eF, eT] at this
    by_cases hfit : fitsZ z.From z.To a o
    · rw [decide_eq_true hfit] at cF
      obtain ⟨f1, f2, f3, f4, f5⟩ := id hfit
      have hbk : ∀ b ∈ z.Free, blkOk z.From z.To b := fun b hb => by
        obtain ⟨i, hi, rfl⟩ := List.getElem_of_mem hb
        exact hz.blk i hi
      have cC : ∀ w', Ext w w' → Ans Tryd.prog 95 [.slice r.Free.A r.Free.n r.Free.c, .int .i64 a, .int .i64 o] w' fun v _ => v = .bool (overB z.Free a o) := fun w' hx =>
        overlaps_ans _ _ _ _ z.From z.To a o _ (hr.free.ext hx) hbk o1 (by omega) (by omega) ⟨by omega, by omega⟩ ⟨f1, f2⟩
      cases hov : overB z.Free a o
      · rw [hov] at cC
        have hJ0 := over_dis (f := 0) (t := 0) hz hfit hov
        repeat' (first | (show CW _ _ _ _ _ _; first | refine CW.seq ?_ | refine CW.region ?_ | refine CW.condfr rfl (by with_reducible rfl) ?_ | refine CW.condf rfl ?_ | refine CW.skip ?_) | (show Post _ _ _ _ _; refine Post.seq ?_) | refine SW.nil ?_ | refine SW.pure rfl rfl ?_ | (show SW _ _ _ _ (⟨_, Op.fieldAddr _ _ _, _, _, _, none⟩ :: _) _ _; refine SW.st (st_field rfl) rfl ?_) | (show SW _ _ _ _ (⟨_, Op.load _ _, _, _, _, none⟩ :: _) _ _; first | refine SW.st (st_loads rfl rfl ((fun _ _ => hb3.cell))) rfl ?_ | refine SW.st (st_load rfl (hb3.cell rfl)) rfl ?_) | (show SW _ _ _ _ (⟨_, Op.call ⟨.value (.func _), _, _⟩, _, _, _, none⟩ :: _) _ _; first | (refine SW.call rfl rfl (c1 _ hw) ?_; intro v w1 hw1 hv; subst hv; replace hw := Ext.trans hw hw1; replace hb3 := hb3.ext hw1; replace hb6 := hb6.ext hw1; clear hw1) | (refine SW.call rfl rfl (cF _) ?_; intro v w1 hw1 hv; subst hv; replace hw := Ext.trans hw hw1; replace hb3 := hb3.ext hw1; replace hb6 := hb6.ext hw1; clear hw1) | (refine SW.call rfl rfl (cC _ hw) ?_; intro v w1 hw1 hv; subst hv; replace hw := Ext.trans hw hw1; replace hb3 := hb3.ext hw1; replace hb6 := hb6.ext hw1; clear hw1)))
        refine SW.call rfl rfl (ZoneCopy_ans r z _ (hr.ext hw) (by omega) ht) fun v w4 hw4 hv => ?_
        obtain ⟨s, rfl, hs⟩ := hv
        replace hs := hs.low hw.size
        (replace hw := Ext.trans hw hw4; replace hb3 := hb3.ext hw4; replace hb6 := hb6.ext hw4)
        clear c1 cC cF
        have hne6 := hb6.lt
        have hne3 := hb3.lt
        refine SW.alloc rfl fun b8 w1 hw1 hb8b hb8 => ?_
        skip
        refine SW.storeAgg hb8 rfl rfl rfl rfl (one_z s) fun w2 hb8' hg => ?_
        have hXX := hw1.own hb8b hg
        have hb8w : w.heap.size ≤ b8 := Nat.le_trans hw.size hb8b
        replace hw := Ext.trans hw hXX
        replace hb3 := hb3.ext hXX
        replace hb6 := hb6.ext hXX
        replace hs := hs.ext hXX
        replace hb8 := hb8'
        clear hb8' hw1 hg hXX
        have hne68 : b6 ≠ b8 := by omega
        have hne38 : b3 ≠ b8 := by omega
        repeat' (first | (show CW _ _ _ _ _ _; first | refine CW.seq ?_ | refine CW.block ?_) | (show Post _ _ _ _ _; refine Post.seq ?_) | refine SW.nil ?_)
        have es : s.Free.n = z.Free.length := by have := hs.free.sl.len; omega
        have hX := hs.free
        have hT := hs.types
        rw [es] at hX
        have eq1 : s = ⟨s.From, s.To, ⟨s.Free.A, z.Free.length, s.Free.c⟩, s.Types⟩ := by rw [← es]
        rw [eq1] at hb8
        have sF := hs.from_
        have sT := hs.to_
        clear hs
        obtain ⟨K, hK⟩ : ∃ K : Env → World → Prop, K = fun L' w' => ∃ l a' o' A c, subEnv L' [(1, .int .i64 a'), (2, .int .i64 o'), (3, .pointer (some ⟨b3, 0, none⟩)), (6, .pointer (some ⟨b6, 0, none⟩)), (8, .pointer (some ⟨b8, 0, none⟩))] ∧ Ext w w' ∧ Blk w' b3 25 (encZ r) ∧ Blk w' b6 25 (encZ .zero) ∧ Blk w' b8 25 [.int .i64 s.From, .int .i64 s.To, .slice A l.length c, .slice s.Types.A s.Types.n s.Types.c] ∧
          Own w' w.heap.size 55 3 encBk A l.length c l ∧ Own w' w.heap.size 3 1 encI s.Types.A s.Types.n s.Types.c z.Types ∧ JOk z.From z.To l a' o' ∧ joinL 5 z.Free a o = (l, a', o') ∧ l.length ≤ z.Free.length := ⟨_, rfl⟩
        refine CW.cutb K ?_ ?_
        · refine CW.loop (fun u : Nat × List Block × Int × Int × Option Addr × Nat => [(1, .int .i64 u.2.2.1), (2, .int .i64 u.2.2.2.1), (3, .pointer (some ⟨b3, 0, none⟩)), (6, .pointer (some ⟨b6, 0, none⟩)), (8, .pointer (some ⟨b8, 0, none⟩))])
            (fun u w' => Ext w w' ∧ Blk w' b3 25 (encZ r) ∧ Blk w' b6 25 (encZ .zero) ∧ Blk w' b8 25 [.int .i64 s.From, .int .i64 s.To, .slice u.2.2.2.2.1 u.2.1.length u.2.2.2.2.2, .slice s.Types.A s.Types.n s.Types.c] ∧
              Own w' w.heap.size 55 3 encBk u.2.2.2.2.1 u.2.1.length u.2.2.2.2.2 u.2.1 ∧ Own w' w.heap.size 3 1 encI s.Types.A s.Types.n s.Types.c z.Types ∧ JInv z a o u.1 u.2.1 u.2.2.1 u.2.2.2.1) (fun u => (5 - u.2.2.2.1).toNat) (5, z.Free, a, o, s.Free.A, s.Free.c)
            ⟨rfl, rfl, rfl, rfl, rfl, trivial⟩ ⟨hw, hb3, hb6, hb8, hX, hT, ⟨hJ0, rfl, by simp only; omega, Nat.le_refl _⟩⟩ ?_
          clear hw hb3 hb6 hb8 hX hT hJ0
          rintro ⟨f, l, a', o', A, c⟩ w' ⟨hw, hb3, hb6, hb8, hX, hT, hJ⟩
          simp only at hb8 hX hJ ⊢
          obtain ⟨k1, k2, k3, k4, k5⟩ := hJ.ok.fit
          have hlen := hJ.len
          have hp := pw_le k1 k2
          have hp2 := pw_succ k1 k2
          by_cases ho4 : o' < 4
          · obtain ⟨m1, m2, m3⟩ := beside_fit (by omega) k1 ho4 k5
            have em : a'.tmod (pw (o' + 1)) = a' % (pw (o' + 1)) := Int.tmod_eq_emod_of_nonneg (by omega)
            have hbs : beside a' o' = if a' % (pw (o' + 1)) = 0 then a' + pw o' else a' - pw o' := by unfold beside; rw [hp2]
            generalize hbes : beside a' o' = bes at m1 m2 m3 hbs
            have hll : l.length * 24 ≤ 140737488355328 := Nat.le_trans (Nat.mul_le_mul_right 24 (by omega)) hf
            have cW := without_ans A l.length c l bes o'
            by_cases hmod : a' % (pw (o' + 1)) = 0
            · rw [if_pos hmod] at hbs
              repeat' (first | (show CW _ _ _ _ _ _; first | refine CW.seq ?_ | refine CW.region ?_ | refine CW.block ?_ | refine CW.condd_t rfl (by omega) ?_ | refine CW.condn_f rfl (by omega) ?_ | refine CW.skip ?_) | (show Post _ _ _ _ _; refine Post.seq ?_) | refine SW.nil ?_ | refine SW.pure rfl rfl ?_ | (show SW _ _ _ _ (⟨_, Op.fieldAddr _ _ _, _, _, _, none⟩ :: _) _ _; refine SW.st (st_field rfl) rfl ?_) | (show SW _ _ _ _ (⟨_, Op.binOp _ _ _ _ _, _, _, _, none⟩ :: _) _ _; first | refine SW.st (st_add rfl rfl (by omega) (by omega)) rfl ?_ | refine SW.st (st_rem rfl rfl (by omega)) rfl ?_) | (show SW _ _ _ _ (⟨_, Op.load _ _, _, _, _, none⟩ :: _) _ _; refine SW.st (st_load rfl (hb8.cell rfl)) rfl ?_) | (show SW _ _ _ _ (⟨_, Op.call ⟨.value (.func _), _, _⟩, _, _, _, none⟩ :: _) _ _; (refine SW.call rfl rfl (power_ans _ (by omega) _) ?_; intro v w1 hw1 hv; subst hv; replace hw := Ext.trans hw hw1; replace hb3 := hb3.ext hw1; replace hb6 := hb6.ext hw1; replace hb8 := hb8.ext hw1; replace hX := hX.ext hw1; replace hT := hT.ext hw1; clear hw1)))
              all_goals first | (exfalso; omega) | skip
              rw [← hbs]
              refine SW.call rfl rfl (cW _ hX.sl hll) fun v w5 hw5 hv => ?_
              obtain ⟨B, d, rfl, hY⟩ := hv
              replace hY := hY.low hw.size
              (replace hw := Ext.trans hw hw5; replace hb3 := hb3.ext hw5; replace hb6 := hb6.ext hw5; replace hb8 := hb8.ext hw5; replace hX := hX.ext hw5; replace hT := hT.ext hw5)
              cases hany : l.any (isB bes o')
              · have hst := hJ.stop (.inr (by rw [hbes]; exact hany))
                repeat' (first | (show CW _ _ _ _ _ _; first | refine CW.seq ?_ | refine CW.region ?_ | refine CW.condt rfl ?_ | refine CW.exit ?_) | (show Post _ _ _ _ _; first | refine Post.seq ?_ | refine Post.seq_exit ?_ | refine Post.hit ?_ | refine Post.pass rfl ?_ | refine Post.again_exit ?_) | refine SW.nil ?_ | refine SW.pure rfl rfl ?_)
                exact Post.cutn (K := K) (by rw [hK]; exact ⟨l, a', o', A, c, ⟨rfl, rfl, rfl, rfl, rfl, trivial⟩, hw, hb3, hb6, hb8, hX, hT, hJ.ok, hst, hJ.len⟩)
              · obtain ⟨f', hJ'⟩ := hJ.next o1 ho4 (by rw [hbes]; exact hany)
                rw [hbes] at hJ'
                repeat' (first | (show CW _ _ _ _ _ _; first | refine CW.seq ?_ | refine CW.region ?_ | refine CW.condf rfl ?_ | refine CW.skip ?_) | (show Post _ _ _ _ _; refine Post.seq ?_) | refine SW.nil ?_ | refine SW.pure rfl rfl ?_ | (show SW _ _ _ _ (⟨_, Op.fieldAddr _ _ _, _, _, _, none⟩ :: _) _ _; refine SW.st (st_field rfl) rfl ?_))
                refine SW.storeB (i := 2) hb8 rfl rfl rfl rfl fun w7 hb8' hg => ?_
                have hG := hb8.gr hg
                replace hw := hw.own hb8w hg
                replace hb6 := hb6.grown hg (by simpa using hne68)
                replace hb3 := hb3.grown hg (by simpa using hne38)
                (replace hY := hY.grT hG rfl; replace hT := hT.grT hG rfl)
                have hmin : min a' bes = a' := by omega
                rw [hmin] at hJ'
                repeat' (first | (show CW _ _ _ _ _ _; first | refine CW.seq ?_ | refine CW.region ?_ | refine CW.condd_f rfl (by omega) ?_ | refine CW.skip ?_) | (show Post _ _ _ _ _; first | refine Post.seq ?_ | refine Post.blk ?_) | refine SW.nil ?_ | refine SW.pure rfl rfl ?_ | (show SW _ _ _ _ (⟨_, Op.binOp _ _ _ _ _, _, _, _, none⟩ :: _) _ _; refine SW.st (st_add rfl rfl (by omega) (by omega)) rfl ?_))
                all_goals first | (exfalso; omega) | skip
                exact Post.again (f', without l bes o', a', o' + 1, B, d) ⟨rfl, rfl, rfl, rfl, rfl, trivial⟩ (by simp only; omega) ⟨hw, hb3, hb6, hb8', hY, hT, hJ'⟩
            · rw [if_neg hmod] at hbs
              repeat' (first | (show CW _ _ _ _ _ _; first | refine CW.seq ?_ | refine CW.region ?_ | refine CW.block ?_ | refine CW.condd_t rfl (by omega) ?_ | refine CW.condn_t rfl (by omega) ?_ | refine CW.skip ?_) | (show Post _ _ _ _ _; refine Post.seq ?_) | refine SW.nil ?_ | refine SW.pure rfl rfl ?_ | (show SW _ _ _ _ (⟨_, Op.fieldAddr _ _ _, _, _, _, none⟩ :: _) _ _; refine SW.st (st_field rfl) rfl ?_) | (show SW _ _ _ _ (⟨_, Op.binOp _ _ _ _ _, _, _, _, none⟩ :: _) _ _; first | refine SW.st (st_add rfl rfl (by omega) (by omega)) rfl ?_ | refine SW.st (st_sub rfl rfl (by omega) (by omega)) rfl ?_ | refine SW.st (st_rem rfl rfl (by omega)) rfl ?_) | (show SW _ _ _ _ (⟨_, Op.load _ _, _, _, _, none⟩ :: _) _ _; refine SW.st (st_load rfl (hb8.cell rfl)) rfl ?_) | (show SW _ _ _ _ (⟨_, Op.call ⟨.value (.func _), _, _⟩, _, _, _, none⟩ :: _) _ _; (refine SW.call rfl rfl (power_ans _ (by omega) _) ?_; intro v w1 hw1 hv; subst hv; replace hw := Ext.trans hw hw1; replace hb3 := hb3.ext hw1; replace hb6 := hb6.ext hw1; replace hb8 := hb8.ext hw1; replace hX := hX.ext hw1; replace hT := hT.ext hw1; clear hw1)))
              all_goals first | (exfalso; omega) | skip
              rw [← hbs]
              refine SW.call rfl rfl (cW _ hX.sl hll) fun v w5 hw5 hv => ?_
              obtain ⟨B, d, rfl, hY⟩ := hv
              replace hY := hY.low hw.size
              (replace hw := Ext.trans hw hw5; replace hb3 := hb3.ext hw5; replace hb6 := hb6.ext hw5; replace hb8 := hb8.ext hw5; replace hX := hX.ext hw5; replace hT := hT.ext hw5)
              cases hany : l.any (isB bes o')
              · have hst := hJ.stop (.inr (by rw [hbes]; exact hany))
                repeat' (first | (show CW _ _ _ _ _ _; first | refine CW.seq ?_ | refine CW.region ?_ | refine CW.condt rfl ?_ | refine CW.exit ?_) | (show Post _ _ _ _ _; first | refine Post.seq ?_ | refine Post.seq_exit ?_ | refine Post.hit ?_ | refine Post.pass rfl ?_ | refine Post.again_exit ?_) | refine SW.nil ?_ | refine SW.pure rfl rfl ?_)
                exact Post.cutn (K := K) (by rw [hK]; exact ⟨l, a', o', A, c, ⟨rfl, rfl, rfl, rfl, rfl, trivial⟩, hw, hb3, hb6, hb8, hX, hT, hJ.ok, hst, hJ.len⟩)
              · obtain ⟨f', hJ'⟩ := hJ.next o1 ho4 (by rw [hbes]; exact hany)
                rw [hbes] at hJ'
                repeat' (first | (show CW _ _ _ _ _ _; first | refine CW.seq ?_ | refine CW.region ?_ | refine CW.condf rfl ?_ | refine CW.skip ?_) | (show Post _ _ _ _ _; refine Post.seq ?_) | refine SW.nil ?_ | refine SW.pure rfl rfl ?_ | (show SW _ _ _ _ (⟨_, Op.fieldAddr _ _ _, _, _, _, none⟩ :: _) _ _; refine SW.st (st_field rfl) rfl ?_))
                refine SW.storeB (i := 2) hb8 rfl rfl rfl rfl fun w7 hb8' hg => ?_
                have hG := hb8.gr hg
                replace hw := hw.own hb8w hg
                replace hb6 := hb6.grown hg (by simpa using hne68)
                replace hb3 := hb3.grown hg (by simpa using hne38)
                (replace hY := hY.grT hG rfl; replace hT := hT.grT hG rfl)
                have hmin : min a' bes = bes := by omega
                rw [hmin] at hJ'
                repeat' (first | (show CW _ _ _ _ _ _; first | refine CW.seq ?_ | refine CW.region ?_ | refine CW.condd_t rfl (by omega) ?_) | (show Post _ _ _ _ _; first | refine Post.seq ?_ | refine Post.blk ?_) | refine SW.nil ?_ | refine SW.pure rfl rfl ?_ | (show SW _ _ _ _ (⟨_, Op.binOp _ _ _ _ _, _, _, _, none⟩ :: _) _ _; refine SW.st (st_add rfl rfl (by omega) (by omega)) rfl ?_))
                all_goals first | (exfalso; omega) | skip
                exact Post.again (f', without l bes o', bes, o' + 1, B, d) ⟨rfl, rfl, rfl, rfl, rfl, trivial⟩ (by simp only; omega) ⟨hw, hb3, hb6, hb8', hY, hT, hJ'⟩
          · repeat' (first | (show CW _ _ _ _ _ _; first | refine CW.seq ?_ | refine CW.region ?_ | refine CW.condd_f rfl (by omega) ?_ | refine CW.exit ?_) | (show Post _ _ _ _ _; first | refine Post.seq ?_ | refine Post.seq_exit ?_ | refine Post.hit ?_ | refine Post.again_exit ?_) | refine SW.nil ?_ | refine SW.pure rfl rfl ?_)
            exact Post.cutn (K := K) (by rw [hK]; exact ⟨l, a', o', A, c, ⟨rfl, rfl, rfl, rfl, rfl, trivial⟩, hw, hb3, hb6, hb8, hX, hT, hJ.ok, hJ.stop (.inl ho4), hJ.len⟩)
        · clear hw hb3 hb6 hb8 hX hT hJ0
          subst hK
          rintro L' w' ⟨l, a', o', A, c, hsub, hw, hb3, hb6, hb8, hX, hT, hJ, hjoin, hlen⟩
          refine Post.sub hsub ?_
          obtain ⟨k1, k2, k3, k4, k5⟩ := hJ.fit
          obtain ⟨k, hk, hkl⟩ := typeIdx hz k3 k4
          have hTn := hT.sl.len
          have hkn : k < s.Types.n := by omega
          have hbv := backV_0 hq hfit hov hjoin (t := z.Types[k]) (by rw [hk]; simp [List.getD_eq_getElem?_getD, List.getElem?_eq_getElem hkl])
          rw [hbv, ← gt_lb hJ.ne_at]
          have hA := hT.sl.base
          repeat' (first | (show CW _ _ _ _ _ _; refine CW.seq ?_) | (show Post _ _ _ _ _; refine Post.seq ?_))
          refine CW.any 14 mixed (rb_tail (by kernel_rfl)) rfl fun w1 hw1 hRB => ?_
          replace hw := Ext.trans hw hw1; replace hb3 := hb3.ext hw1; replace hb6 := hb6.ext hw1; replace hb8 := hb8.ext hw1; replace hX := hX.ext hw1; replace hT := hT.ext hw1; clear hw1
          refine SA.take 0 hRB rfl (by kernel_rfl) (by kernel_rfl) rfl ?_
          repeat ((show SW _ _ _ _ (⟨_, Op.fieldAddr _ _ _, _, _, _, none⟩ :: _) _ _; refine SW.st (st_field rfl) rfl ?_))
          refine SW.tknil ?_
          refine SA.take 1 hRB rfl (by kernel_rfl) (by kernel_rfl) rfl ?_
          repeat ((show SW _ _ _ _ (⟨_, Op.load _ _, _, _, _, none⟩ :: _) _ _; refine SW.st (st_load rfl (hb8.cell rfl)) rfl ?_))
          refine SW.tknil ?_
          refine SA.take 2 hRB rfl (by kernel_rfl) (by kernel_rfl) rfl ?_
          repeat (refine SW.pure rfl rfl ?_)
          refine SW.tknil ?_
          refine SA.take 3 hRB rfl (by kernel_rfl) (by kernel_rfl) rfl ?_
          repeat (refine SW.pure rfl rfl ?_)
          refine SW.tknil ?_
          refine SA.take 4 hRB rfl (by kernel_rfl) (by kernel_rfl) rfl ?_
          repeat ((show SW _ _ _ _ (⟨_, Op.fieldAddr _ _ _, _, _, _, none⟩ :: _) _ _; refine SW.st (st_field rfl) rfl ?_))
          refine SW.tknil ?_
          refine SA.take 5 hRB rfl (by kernel_rfl) (by kernel_rfl) rfl ?_
          repeat ((show SW _ _ _ _ (⟨_, Op.load _ _, _, _, _, none⟩ :: _) _ _; refine SW.st (st_load rfl (hb8.cell rfl)) rfl ?_))
          refine SW.tknil ?_
          refine SA.take 6 hRB rfl (by kernel_rfl) (by kernel_rfl) rfl ?_
          repeat (refine SW.pure rfl rfl ?_)
          refine SW.tknil ?_
          refine SA.take 7 hRB rfl (by kernel_rfl) (by kernel_rfl) rfl ?_
          repeat ((show SW _ _ _ _ (⟨_, Op.fieldAddr _ _ _, _, _, _, none⟩ :: _) _ _; refine SW.st (st_field rfl) rfl ?_))
          refine SW.tknil ?_
          refine SA.take 8 hRB rfl (by kernel_rfl) (by kernel_rfl) rfl ?_
          repeat ((show SW _ _ _ _ (⟨_, Op.load _ _, _, _, _, none⟩ :: _) _ _; refine SW.st (st_load rfl (hb3.cell rfl)) rfl ?_))
          refine SW.tknil ?_
          refine SA.take 9 hRB rfl (by kernel_rfl) (by kernel_rfl) rfl ?_
          repeat ((show SW _ _ _ _ (⟨_, Op.binOp _ _ _ _ _, _, _, _, none⟩ :: _) _ _; refine SW.st (st_sub rfl rfl (by omega) (by omega)) rfl ?_))
          refine SW.tknil ?_
          refine SA.take 10 hRB rfl (by kernel_rfl) (by kernel_rfl) rfl ?_
          repeat ((show SW _ _ _ _ (⟨_, Op.binOp _ _ _ _ _, _, _, _, none⟩ :: _) _ _; refine SW.st (st_quo rfl rfl (by omega) (by omega) (by omega)) rfl ?_))
          refine SW.tknil ?_
          refine SA.take 11 hRB rfl (by kernel_rfl) (by kernel_rfl) rfl ?_
          repeat ((show SW _ _ _ _ (⟨_, Op.indexAddr _ _ _, _, _, _, none⟩ :: _) _ _; refine SW.st (st_indexI (k) rfl rfl (by assumption) (by omega) (by omega)) rfl ?_))
          refine SW.tknil ?_
          refine SA.take 12 hRB rfl (by kernel_rfl) (by kernel_rfl) rfl ?_
          repeat ((show SW _ _ _ _ (⟨_, Op.load _ _, _, _, _, none⟩ :: _) _ _; refine SW.st (st_load rfl (hT.sl.one hkn rfl)) rfl ?_))
          refine SW.tknil ?_
          refine SA.take 13 hRB rfl (by kernel_rfl) (by kernel_rfl) rfl ?_
          repeat ((show SW _ _ _ _ (⟨_, Op.build _ _, _, _, _, none⟩ :: _) _ _; refine SW.st (st_build rfl rfl) rfl ?_))
          refine SW.tknil ?_
          refine SA.done (by kernel_rfl) ?_
          refine SW.call rfl rfl (withBlock_ans A l.length c l ⟨a', o', z.Types[k]⟩ _ hX.sl (Nat.le_trans (Nat.mul_le_mul_right 24 (by omega)) hf)) fun v w5 hw5 hv => ?_
          obtain ⟨B, d, rfl, hY⟩ := hv
          replace hY := hY.low hw.size
          (replace hw := Ext.trans hw hw5; replace hb3 := hb3.ext hw5; replace hb6 := hb6.ext hw5; replace hb8 := hb8.ext hw5; replace hX := hX.ext hw5; replace hT := hT.ext hw5)
          repeat' ((show SW _ _ _ _ (⟨_, Op.fieldAddr _ _ _, _, _, _, none⟩ :: _) _ _; refine SW.st (st_field rfl) rfl ?_))
          refine SW.storeB (i := 2) hb8 rfl rfl rfl rfl fun w7 hb8' hg => ?_
          have hG := hb8.gr hg
          replace hw := hw.own hb8w hg
          replace hb6 := hb6.grown hg (by simpa using hne68)
          (replace hY := hY.grT hG rfl; replace hT := hT.grT hG rfl)
          repeat' (first | (show CW _ _ _ _ _ _; first | refine CW.seq ?_ | refine CW.region ?_) | (show Post _ _ _ _ _; first | refine Post.seq ?_ | refine Post.np ?_) | refine SW.nil ?_ | (show SW _ _ _ _ (⟨_, Op.load _ _, _, _, _, none⟩ :: _) _ _; refine SW.st (st_loads rfl rfl ((fun _ _ => hb8'.cell))) rfl ?_))
          refine SW.storeAgg hb6 rfl rfl rfl rfl (one_z ⟨s.From, s.To, ⟨B, l.length + 1, d⟩, s.Types⟩) fun w9 hR2 hg => ?_
          have hG := hb6.gr hg
          replace hw := hw.own hb6w hg
          (replace hY := hY.grT hG rfl; replace hT := hT.grT hG rfl)
          repeat' (first | (show CW _ _ _ _ _ _; refine CW.ret ?_) | (show Post _ _ _ _ _; refine Post.seq ?_) | refine SW.nil ?_ | refine SW.pure rfl rfl ?_)
          exact Post.ret2c rfl rfl rfl hR2 rfl ⟨_, rfl, hw, ⟨s.From, s.To, ⟨B, l.length + 1, d⟩, s.Types⟩, rfl, sF, sT, hY, hT⟩
      · rw [hov] at cC
        rw [backV_5 hq hfit hov]
        repeat' (first | (show CW _ _ _ _ _ _; first | refine CW.seq ?_ | refine CW.region ?_ | refine CW.condtr rfl (by with_reducible rfl) ?_ | refine CW.condf rfl ?_ | refine CW.skip ?_) | (show Post _ _ _ _ _; refine Post.seq ?_) | refine SW.nil ?_ | refine SW.pure rfl rfl ?_ | (show SW _ _ _ _ (⟨_, Op.fieldAddr _ _ _, _, _, _, none⟩ :: _) _ _; refine SW.st (st_field rfl) rfl ?_) | (show SW _ _ _ _ (⟨_, Op.build _ _, _, _, _, none⟩ :: _) _ _; refine SW.st (st_build rfl rfl) rfl ?_) | (show SW _ _ _ _ (⟨_, Op.load _ _, _, _, _, none⟩ :: _) _ _; first | refine SW.st (st_loads rfl rfl ((fun _ _ => hb3.cell))) rfl ?_ | refine SW.st (st_load rfl (hb3.cell rfl)) rfl ?_) | (show SW _ _ _ _ (⟨_, Op.call ⟨.value (.func _), _, _⟩, _, _, _, none⟩ :: _) _ _; first | (refine SW.call rfl rfl (c1 _ hw) ?_; intro v w1 hw1 hv; subst hv; replace hw := Ext.trans hw hw1; replace hb3 := hb3.ext hw1; replace hb6 := hb6.ext hw1; clear hw1) | (refine SW.call rfl rfl (cF _) ?_; intro v w1 hw1 hv; subst hv; replace hw := Ext.trans hw hw1; replace hb3 := hb3.ext hw1; replace hb6 := hb6.ext hw1; clear hw1) | (refine SW.call rfl rfl (cC _ hw) ?_; intro v w1 hw1 hv; subst hv; replace hw := Ext.trans hw hw1; replace hb3 := hb3.ext hw1; replace hb6 := hb6.ext hw1; clear hw1)))
        refine SW.storeAgg hb6 rfl rfl rfl rfl (one_z .zero) fun w5 hR2 hg => ?_
        replace hw := hw.own hb6w hg
        repeat' (first | (show CW _ _ _ _ _ _; refine CW.ret ?_) | (show Post _ _ _ _ _; first | refine Post.seq ?_ | refine Post.seq_ret ?_) | refine SW.nil ?_ | refine SW.pure rfl rfl ?_)
        exact Post.ret2c rfl rfl rfl hR2 rfl ⟨_, rfl, hw, .zero, rfl, OwnZ.zero _ _⟩
    · rw [decide_eq_false hfit] at cF
      rw [backV_1 hq hfit]
      repeat' (first | (show CW _ _ _ _ _ _; first | refine CW.seq ?_ | refine CW.region ?_ | refine CW.condt rfl ?_ | refine CW.condf rfl ?_ | refine CW.skip ?_) | (show Post _ _ _ _ _; refine Post.seq ?_) | refine SW.nil ?_ | refine SW.pure rfl rfl ?_ | (show SW _ _ _ _ (⟨_, Op.build _ _, _, _, _, none⟩ :: _) _ _; refine SW.st (st_build rfl rfl) rfl ?_) | (show SW _ _ _ _ (⟨_, Op.load _ _, _, _, _, none⟩ :: _) _ _; refine SW.st (st_loads rfl rfl ((fun _ _ => hb3.cell))) rfl ?_) | (show SW _ _ _ _ (⟨_, Op.call ⟨.value (.func _), _, _⟩, _, _, _, none⟩ :: _) _ _; first | (refine SW.call rfl rfl (c1 _ hw) ?_; intro v w1 hw1 hv; subst hv; replace hw := Ext.trans hw hw1; replace hb3 := hb3.ext hw1; replace hb6 := hb6.ext hw1; clear hw1) | (refine SW.call rfl rfl (cF _) ?_; intro v w1 hw1 hv; subst hv; replace hw := Ext.trans hw hw1; replace hb3 := hb3.ext hw1; replace hb6 := hb6.ext hw1; clear hw1)))
      refine SW.storeAgg hb6 rfl rfl rfl rfl (one_z .zero) fun w5 hR2 hg => ?_
      replace hw := hw.own hb6w hg
      repeat' (first | (show CW _ _ _ _ _ _; refine CW.ret ?_) | (show Post _ _ _ _ _; first | refine Post.seq ?_ | refine Post.seq_ret ?_) | refine SW.nil ?_ | refine SW.pure rfl rfl ?_)
      exact Post.ret2c rfl rfl rfl hR2 rfl ⟨_, rfl, hw, .zero, rfl, OwnZ.zero _ _⟩
end Go.Proofs.YtfommgdbahemfaaDoor
