/-
  Contracts: BackOf; the law BuddyBacks.
-/
import Derived.Test.YtfdmgflboibdoaaPackPagesFrees16
import Derived.Test.YtfdmgflboibdoaaPackPagesFrees11
import Derived.Test.YtfdmgflboibdoaaPackPagesFrees12
import Derived.Test.YtfdmgflboibdoaaPackPagesFrees10
import Derived.Test.YtfdmgflboibdoaaPackPagesFrees9
set_option linter.unusedVariables false
namespace Go.Proofs.Ytfdmgflboibdoaa
open Go.RowKit

theorem JOk.ne_at {f t : Int} {l : List Block} {a o : Int} (h : JOk f t l a o) : ∀ x ∈ l, x.At ≠ a := fun x hx e => by
  have h1 := h.dis x hx
  have h2 := (h.blk x hx).1
  have := pw_le h2.1 h2.2.1
  have := pw_le h.fit.1 h.fit.2.1
  omega

set_option maxHeartbeats 8000000 in
theorem BackOf_ans (r : ZRow) (z : Zone) (a o : Int) (w : World) (hr : RdZ w r z) (hf : (r.Free.n + 1) * 24 ≤ 140737488355328) (ht : r.Types.n * 8 ≤ 140737488355328) (h1 : -9223372036854775808 ≤ r.From ∧ r.From ≤ 9223372036854775807) (h2 : -9223372036854775808 ≤ r.To ∧ r.To ≤ 9223372036854775807) :
    Ans Try.prog 49 [.agg (encZ r).toArray, .int .i64 a, .int .i64 o] w (ZoneOut w.heap.size (backV z a o)) := by
  refine ans_of Try.func49 rfl Try.ntmps49 rfl ?_
  refine CW.seq (CW.region (SW.box rfl rfl fun b3 w1 hw hb3b hb3 => ?_))
  refine SW.alloc rfl fun b6 w2 hw2 hb6b hb6 => ?_
  have hb6w : w.heap.size ≤ b6 := Nat.le_trans hw.size hb6b
  (replace hw := Ext.trans hw hw2; replace hb3 := hb3.ext hw2)
  have eF := hr.from_
  have eT := hr.to_
  have hFl := hr.free.len
  have hTl := hr.types.len
  obtain ⟨q, hq⟩ : ∃ q, zoneB z = q := ⟨_, rfl⟩
  have c1 : ∀ w', Ext w w' → Ans Try.prog 28 [.agg (encZ r).toArray] w' fun v _ => v = .bool q := fun w' h => by
    have := ZoneMay_ans r z w' (hr.ext h) (by omega) (by omega) h1 h2
    rwa [hq] at this
  cases q
  · rw [backV_8 hq]
    repeat' (first | (show CW _ _ _ _ _ _; first | refine CW.seq ?_ | refine CW.region ?_ | refine CW.condt rfl ?_) | (show Post _ _ _ _ _; refine Post.seq ?_) | refine SW.nil ?_ | refine SW.pure rfl rfl ?_ | (show SW _ _ _ _ (⟨_, Op.build _ _, _, _, _, none⟩ :: _) _ _; refine SW.st (st_build rfl rfl) rfl ?_) | (show SW _ _ _ _ (⟨_, Op.load _ _, _, _, _, none⟩ :: _) _ _; refine SW.st (st_loads rfl rfl ((fun _ _ => hb3.cell))) rfl ?_) | (show SW _ _ _ _ (⟨_, Op.call ⟨.value (.func _), _, _⟩, _, _, _, none⟩ :: _) _ _; (refine SW.call rfl rfl (c1 _ hw) ?_; intro v w1 hw1 hv; subst hv; replace hw := Ext.trans hw hw1; replace hb3 := hb3.ext hw1; replace hb6 := hb6.ext hw1; clear hw1)))
    refine SW.storeAgg hb6 rfl rfl rfl rfl (one_z .zero) fun w5 hR2 hg => ?_
    replace hw := hw.own hb6w hg
    repeat' (first | (show CW _ _ _ _ _ _; refine CW.ret ?_) | (show Post _ _ _ _ _; first | refine Post.seq ?_ | refine Post.seq_ret ?_) | refine SW.nil ?_ | refine SW.pure rfl rfl ?_)
    exact Post.ret2c rfl rfl rfl hR2 rfl ⟨_, rfl, hw, .zero, rfl, OwnZ.zero _ _⟩
  · have hz := zoneB_iff.1 hq
    obtain ⟨o1, o2, o3, o4, o5⟩ := hz.ok
    have cF : ∀ w', Ans Try.prog 81 [.agg (encZ r).toArray, .int .i64 a, .int .i64 o] w' fun v _ => v = .bool (decide (fitsZ z.From z.To a o)) := fun w' => by
      have := blockMay_ans r a o w' ⟨by omega, by omega⟩ ⟨by omega, by omega⟩
      rwa [eF, eT] at this
    by_cases hfit : fitsZ z.From z.To a o
    · rw [decide_eq_true hfit] at cF
      obtain ⟨f1, f2, f3, f4, f5⟩ := id hfit
      have hbk : ∀ b ∈ z.Free, blkOk z.From z.To b := fun b hb => by
        obtain ⟨i, hi, rfl⟩ := List.getElem_of_mem hb
        exact hz.blk i hi
      have cC : ∀ w', Ext w w' → Ans Try.prog 99 [.slice r.Free.A r.Free.n r.Free.c, .int .i64 a, .int .i64 o] w' fun v _ => v = .bool (overB z.Free a o) := fun w' hx =>
        overlaps_ans _ _ _ _ z.From z.To a o _ (hr.free.ext hx) hbk o1 (by omega) (by omega) ⟨by omega, by omega⟩ ⟨f1, f2⟩
      cases hov : overB z.Free a o
      · rw [hov] at cC
        have hJ0 := over_dis (f := 0) (t := 0) hz hfit hov
        repeat' (first | (show CW _ _ _ _ _ _; first | refine CW.seq ?_ | refine CW.region ?_ | refine CW.condfr rfl (by with_reducible rfl) ?_ | refine CW.condf rfl ?_ | refine CW.skip ?_) | (show Post _ _ _ _ _; refine Post.seq ?_) | refine SW.nil ?_ | refine SW.pure rfl rfl ?_ | (show SW _ _ _ _ (⟨_, Op.fieldAddr _ _ _, _, _, _, none⟩ :: _) _ _; refine SW.st (st_field rfl) rfl ?_) | (show SW _ _ _ _ (⟨_, Op.load _ _, _, _, _, none⟩ :: _) _ _; first | refine SW.st (st_loads rfl rfl ((fun _ _ => hb3.cell))) rfl ?_ | refine SW.st (st_load rfl (hb3.cell rfl)) rfl ?_) | (show SW _ _ _ _ (⟨_, Op.call ⟨.value (.func _), _, _⟩, _, _, _, none⟩ :: _) _ _; first | (refine SW.call rfl rfl (c1 _ hw) ?_; intro v w1 hw1 hv; subst hv; replace hw := Ext.trans hw hw1; replace hb3 := hb3.ext hw1; replace hb6 := hb6.ext hw1; clear hw1) | (refine SW.call rfl rfl (cF _) ?_; intro v w1 hw1 hv; subst hv; replace hw := Ext.trans hw hw1; replace hb3 := hb3.ext hw1; replace hb6 := hb6.ext hw1; clear hw1) | (refine SW.call rfl rfl (cC _ hw) ?_; intro v w1 hw1 hv; subst hv; replace hw := Ext.trans hw hw1; replace hb3 := hb3.ext hw1; replace hb6 := hb6.ext hw1; clear hw1)))
        refine SW.call rfl rfl (ZoneCopy_ans r z _ (hr.ext hw) (by omega) ht) fun v w4 hw4 hv => ?_
        obtain ⟨s, rfl, hs⟩ := hv
        replace hs := hs.low hw.size
        (replace hw := Ext.trans hw hw4; replace hb3 := hb3.ext hw4; replace hb6 := hb6.ext hw4)
        clear c1 cC cF
        have hne6 := hb6.lt
        have hne3 := hb3.lt
        refine SW.alloc rfl fun b8 w1 hw1 hb8b hb8 => ?_
        skip
        refine SW.storeAgg hb8 rfl rfl rfl rfl (one_z s) fun w2 hb8' hg => ?_
        have hXX := hw1.own hb8b hg
        have hb8w : w.heap.size ≤ b8 := Nat.le_trans hw.size hb8b
        replace hw := Ext.trans hw hXX
        replace hb3 := hb3.ext hXX
        replace hb6 := hb6.ext hXX
        replace hs := hs.ext hXX
        replace hb8 := hb8'
        clear hb8' hw1 hg hXX
        have hne68 : b6 ≠ b8 := by omega
        have hne38 : b3 ≠ b8 := by omega
        repeat' (first | (show CW _ _ _ _ _ _; first | refine CW.seq ?_ | refine CW.block ?_) | (show Post _ _ _ _ _; refine Post.seq ?_) | refine SW.nil ?_)
        have es : s.Free.n = z.Free.length := by have := hs.free.sl.len; omega
        have hX := hs.free
        have hT := hs.types
        rw [es] at hX
        have eq1 : s = ⟨s.From, s.To, ⟨s.Free.A, z.Free.length, s.Free.c⟩, s.Types⟩ := by rw [← es]
        rw [eq1] at hb8
        have sF := hs.from_
        have sT := hs.to_
        clear hs
        obtain ⟨K, hK⟩ : ∃ K : Env → World → Prop, K = fun L' w' => ∃ l a' o' A c, subEnv L' [(1, .int .i64 a'), (2, .int .i64 o'), (3, .pointer (some ⟨b3, 0, none⟩)), (6, .pointer (some ⟨b6, 0, none⟩)), (8, .pointer (some ⟨b8, 0, none⟩))] ∧ Ext w w' ∧ Blk w' b3 38 (encZ r) ∧ Blk w' b6 38 (encZ .zero) ∧ Blk w' b8 38 [.int .i64 s.From, .int .i64 s.To, .slice A l.length c, .slice s.Types.A s.Types.n s.Types.c] ∧
          Own w' w.heap.size 86 3 encBk A l.length c l ∧ Own w' w.heap.size 3 1 encI s.Types.A s.Types.n s.Types.c z.Types ∧ JOk z.From z.To l a' o' ∧ joinL 5 z.Free a o = (l, a', o') ∧ l.length ≤ z.Free.length := ⟨_, rfl⟩
        refine CW.cutb K ?_ ?_
        · refine CW.loop (fun u : Nat × List Block × Int × Int × Option Addr × Nat => [(1, .int .i64 u.2.2.1), (2, .int .i64 u.2.2.2.1), (3, .pointer (some ⟨b3, 0, none⟩)), (6, .pointer (some ⟨b6, 0, none⟩)), (8, .pointer (some ⟨b8, 0, none⟩))])
            (fun u w' => Ext w w' ∧ Blk w' b3 38 (encZ r) ∧ Blk w' b6 38 (encZ .zero) ∧ Blk w' b8 38 [.int .i64 s.From, .int .i64 s.To, .slice u.2.2.2.2.1 u.2.1.length u.2.2.2.2.2, .slice s.Types.A s.Types.n s.Types.c] ∧
              Own w' w.heap.size 86 3 encBk u.2.2.2.2.1 u.2.1.length u.2.2.2.2.2 u.2.1 ∧ Own w' w.heap.size 3 1 encI s.Types.A s.Types.n s.Types.c z.Types ∧ JInv z a o u.1 u.2.1 u.2.2.1 u.2.2.2.1) (fun u => (5 - u.2.2.2.1).toNat) (5, z.Free, a, o, s.Free.A, s.Free.c)
            ⟨rfl, rfl, rfl, rfl, rfl, trivial⟩ ⟨hw, hb3, hb6, hb8, hX, hT, ⟨hJ0, rfl, by simp only; omega, Nat.le_refl _⟩⟩ ?_
          clear hw hb3 hb6 hb8 hX hT hJ0
          rintro ⟨f, l, a', o', A, c⟩ w' ⟨hw, hb3, hb6, hb8, hX, hT, hJ⟩
          simp only at hb8 hX hJ ⊢
          obtain ⟨k1, k2, k3, k4, k5⟩ := hJ.ok.fit
          have hlen := hJ.len
          have hp := pw_le k1 k2
          have hp2 := pw_succ k1 k2
          by_cases ho4 : o' < 4
          · obtain ⟨m1, m2, m3⟩ := beside_fit (by omega) k1 ho4 k5
            have em : a'.tmod (pw (o' + 1)) = a' % (pw (o' + 1)) := Int.tmod_eq_emod_of_nonneg (by omega)
            have hbs : beside a' o' = if a' % (pw (o' + 1)) = 0 then a' + pw o' else a' - pw o' := by unfold beside; rw [hp2]
            generalize hbes : beside a' o' = bes at m1 m2 m3 hbs
            have hll : l.length * 24 ≤ 140737488355328 := Nat.le_trans (Nat.mul_le_mul_right 24 (by omega)) hf
            have cW := without_ans A l.length c l bes o'
            by_cases hmod : a' % (pw (o' + 1)) = 0
            · rw [if_pos hmod] at hbs
              repeat' (first | (show CW _ _ _ _ _ _; first | refine CW.seq ?_ | refine CW.region ?_ | refine CW.block ?_ | refine CW.condd_t rfl (by omega) ?_ | refine CW.condn_f rfl (by omega) ?_ | refine CW.skip ?_) | (show Post _ _ _ _ _; refine Post.seq ?_) | refine SW.nil ?_ | refine SW.pure rfl rfl ?_ | (show SW _ _ _ _ (⟨_, Op.fieldAddr _ _ _, _, _, _, none⟩ :: _) _ _; refine SW.st (st_field rfl) rfl ?_) | (show SW _ _ _ _ (⟨_, Op.binOp _ _ _ _ _, _, _, _, none⟩ :: _) _ _; first | refine SW.st (st_add rfl rfl (by omega) (by omega)) rfl ?_ | refine SW.st (st_rem rfl rfl (by omega)) rfl ?_) | (show SW _ _ _ _ (⟨_, Op.load _ _, _, _, _, none⟩ :: _) _ _; refine SW.st (st_load rfl (hb8.cell rfl)) rfl ?_) | (show SW _ _ _ _ (⟨_, Op.call ⟨.value (.func _), _, _⟩, _, _, _, none⟩ :: _) _ _; (refine SW.call rfl rfl (power_ans _ (by omega) _) ?_; intro v w1 hw1 hv; subst hv; replace hw := Ext.trans hw hw1; replace hb3 := hb3.ext hw1; replace hb6 := hb6.ext hw1; replace hb8 := hb8.ext hw1; replace hX := hX.ext hw1; replace hT := hT.ext hw1; clear hw1)))
              all_goals first | (exfalso; omega) | skip
              rw [← hbs]
              refine SW.call rfl rfl (cW _ hX.sl hll) fun v w5 hw5 hv => ?_
              obtain ⟨B, d, rfl, hY⟩ := hv
              replace hY := hY.low hw.size
              (replace hw := Ext.trans hw hw5; replace hb3 := hb3.ext hw5; replace hb6 := hb6.ext hw5; replace hb8 := hb8.ext hw5; replace hX := hX.ext hw5; replace hT := hT.ext hw5)
              cases hany : l.any (isB bes o')
              · have hst := hJ.stop (.inr (by rw [hbes]; exact hany))
                repeat' (first | (show CW _ _ _ _ _ _; first | refine CW.seq ?_ | refine CW.region ?_ | refine CW.condt rfl ?_ | refine CW.exit ?_) | (show Post _ _ _ _ _; first | refine Post.seq ?_ | refine Post.seq_exit ?_ | refine Post.hit ?_ | refine Post.pass rfl ?_ | refine Post.again_exit ?_) | refine SW.nil ?_ | refine SW.pure rfl rfl ?_)
                exact Post.cutn (K := K) (by rw [hK]; exact ⟨l, a', o', A, c, ⟨rfl, rfl, rfl, rfl, rfl, trivial⟩, hw, hb3, hb6, hb8, hX, hT, hJ.ok, hst, hJ.len⟩)
              · obtain ⟨f', hJ'⟩ := hJ.next o1 ho4 (by rw [hbes]; exact hany)
                rw [hbes] at hJ'
                repeat' (first | (show CW _ _ _ _ _ _; first | refine CW.seq ?_ | refine CW.region ?_ | refine CW.condf rfl ?_ | refine CW.skip ?_) | (show Post _ _ _ _ _; refine Post.seq ?_) | refine SW.nil ?_ | refine SW.pure rfl rfl ?_ | (show SW _ _ _ _ (⟨_, Op.fieldAddr _ _ _, _, _, _, none⟩ :: _) _ _; refine SW.st (st_field rfl) rfl ?_))
                refine SW.storeB (i := 2) hb8 rfl rfl rfl rfl fun w7 hb8' hg => ?_
                have hG := hb8.gr hg
                replace hw := hw.own hb8w hg
                replace hb6 := hb6.grown hg (by simpa using hne68)
                replace hb3 := hb3.grown hg (by simpa using hne38)
                (replace hY := hY.grT hG rfl; replace hT := hT.grT hG rfl)
                have hmin : min a' bes = a' := by omega
                rw [hmin] at hJ'
                repeat' (first | (show CW _ _ _ _ _ _; first | refine CW.seq ?_ | refine CW.region ?_ | refine CW.condd_f rfl (by omega) ?_ | refine CW.skip ?_) | (show Post _ _ _ _ _; first | refine Post.seq ?_ | refine Post.blk ?_) | refine SW.nil ?_ | refine SW.pure rfl rfl ?_ | (show SW _ _ _ _ (⟨_, Op.binOp _ _ _ _ _, _, _, _, none⟩ :: _) _ _; refine SW.st (st_add rfl rfl (by omega) (by omega)) rfl ?_))
                all_goals first | (exfalso; omega) | skip
                exact Post.again (f', without l bes o', a', o' + 1, B, d) ⟨rfl, rfl, rfl, rfl, rfl, trivial⟩ (by simp only; omega) ⟨hw, hb3, hb6, hb8', hY, hT, hJ'⟩
            · rw [if_neg hmod] at hbs
              repeat' (first | (show CW _ _ _ _ _ _; first | refine CW.seq ?_ | refine CW.region ?_ | refine CW.block ?_ | refine CW.condd_t rfl (by omega) ?_ | refine CW.condn_t rfl (by omega) ?_ | refine CW.skip ?_) | (show Post _ _ _ _ _; refine Post.seq ?_) | refine SW.nil ?_ | refine SW.pure rfl rfl ?_ | (show SW _ _ _ _ (⟨_, Op.fieldAddr _ _ _, _, _, _, none⟩ :: _) _ _; refine SW.st (st_field rfl) rfl ?_) | (show SW _ _ _ _ (⟨_, Op.binOp _ _ _ _ _, _, _, _, none⟩ :: _) _ _; first | refine SW.st (st_add rfl rfl (by omega) (by omega)) rfl ?_ | refine SW.st (st_sub rfl rfl (by omega) (by omega)) rfl ?_ | refine SW.st (st_rem rfl rfl (by omega)) rfl ?_) | (show SW _ _ _ _ (⟨_, Op.load _ _, _, _, _, none⟩ :: _) _ _; refine SW.st (st_load rfl (hb8.cell rfl)) rfl ?_) | (show SW _ _ _ _ (⟨_, Op.call ⟨.value (.func _), _, _⟩, _, _, _, none⟩ :: _) _ _; (refine SW.call rfl rfl (power_ans _ (by omega) _) ?_; intro v w1 hw1 hv; subst hv; replace hw := Ext.trans hw hw1; replace hb3 := hb3.ext hw1; replace hb6 := hb6.ext hw1; replace hb8 := hb8.ext hw1; replace hX := hX.ext hw1; replace hT := hT.ext hw1; clear hw1)))
              all_goals first | (exfalso; omega) | skip
              rw [← hbs]
              refine SW.call rfl rfl (cW _ hX.sl hll) fun v w5 hw5 hv => ?_
              obtain ⟨B, d, rfl, hY⟩ := hv
              replace hY := hY.low hw.size
              (replace hw := Ext.trans hw hw5; replace hb3 := hb3.ext hw5; replace hb6 := hb6.ext hw5; replace hb8 := hb8.ext hw5; replace hX := hX.ext hw5; replace hT := hT.ext hw5)
              cases hany : l.any (isB bes o')
              · have hst := hJ.stop (.inr (by rw [hbes]; exact hany))
                repeat' (first | (show CW _ _ _ _ _ _; first | refine CW.seq ?_ | refine CW.region ?_ | refine CW.condt rfl ?_ | refine CW.exit ?_) | (show Post _ _ _ _ _; first | refine Post.seq ?_ | refine Post.seq_exit ?_ | refine Post.hit ?_ | refine Post.pass rfl ?_ | refine Post.again_exit ?_) | refine SW.nil ?_ | refine SW.pure rfl rfl ?_)
                exact Post.cutn (K := K) (by rw [hK]; exact ⟨l, a', o', A, c, ⟨rfl, rfl, rfl, rfl, rfl, trivial⟩, hw, hb3, hb6, hb8, hX, hT, hJ.ok, hst, hJ.len⟩)
              · obtain ⟨f', hJ'⟩ := hJ.next o1 ho4 (by rw [hbes]; exact hany)
                rw [hbes] at hJ'
                repeat' (first | (show CW _ _ _ _ _ _; first | refine CW.seq ?_ | refine CW.region ?_ | refine CW.condf rfl ?_ | refine CW.skip ?_) | (show Post _ _ _ _ _; refine Post.seq ?_) | refine SW.nil ?_ | refine SW.pure rfl rfl ?_ | (show SW _ _ _ _ (⟨_, Op.fieldAddr _ _ _, _, _, _, none⟩ :: _) _ _; refine SW.st (st_field rfl) rfl ?_))
                refine SW.storeB (i := 2) hb8 rfl rfl rfl rfl fun w7 hb8' hg => ?_
                have hG := hb8.gr hg
                replace hw := hw.own hb8w hg
                replace hb6 := hb6.grown hg (by simpa using hne68)
                replace hb3 := hb3.grown hg (by simpa using hne38)
                (replace hY := hY.grT hG rfl; replace hT := hT.grT hG rfl)
                have hmin : min a' bes = bes := by omega
                rw [hmin] at hJ'
                repeat' (first | (show CW _ _ _ _ _ _; first | refine CW.seq ?_ | refine CW.region ?_ | refine CW.condd_t rfl (by omega) ?_) | (show Post _ _ _ _ _; first | refine Post.seq ?_ | refine Post.blk ?_) | refine SW.nil ?_ | refine SW.pure rfl rfl ?_ | (show SW _ _ _ _ (⟨_, Op.binOp _ _ _ _ _, _, _, _, none⟩ :: _) _ _; refine SW.st (st_add rfl rfl (by omega) (by omega)) rfl ?_))
                all_goals first | (exfalso; omega) | skip
                exact Post.again (f', without l bes o', bes, o' + 1, B, d) ⟨rfl, rfl, rfl, rfl, rfl, trivial⟩ (by simp only; omega) ⟨hw, hb3, hb6, hb8', hY, hT, hJ'⟩
          · repeat' (first | (show CW _ _ _ _ _ _; first | refine CW.seq ?_ | refine CW.region ?_ | refine CW.condd_f rfl (by omega) ?_ | refine CW.exit ?_) | (show Post _ _ _ _ _; first | refine Post.seq ?_ | refine Post.seq_exit ?_ | refine Post.hit ?_ | refine Post.again_exit ?_) | refine SW.nil ?_ | refine SW.pure rfl rfl ?_)
            exact Post.cutn (K := K) (by rw [hK]; exact ⟨l, a', o', A, c, ⟨rfl, rfl, rfl, rfl, rfl, trivial⟩, hw, hb3, hb6, hb8, hX, hT, hJ.ok, hJ.stop (.inl ho4), hJ.len⟩)
        · clear hw hb3 hb6 hb8 hX hT hJ0
          subst hK
          rintro L' w' ⟨l, a', o', A, c, hsub, hw, hb3, hb6, hb8, hX, hT, hJ, hjoin, hlen⟩
          refine Post.sub hsub ?_
          obtain ⟨k1, k2, k3, k4, k5⟩ := hJ.fit
          obtain ⟨k, hk, hkl⟩ := typeIdx hz k3 k4
          have hTn := hT.sl.len
          have hkn : k < s.Types.n := by omega
          have hbv := backV_0 hq hfit hov hjoin (t := z.Types[k]) (by rw [hk]; simp [List.getD_eq_getElem?_getD, List.getElem?_eq_getElem hkl])
          rw [hbv, ← gt_lb hJ.ne_at]
          have hA := hT.sl.base
          repeat' (first | (show CW _ _ _ _ _ _; refine CW.seq ?_) | (show Post _ _ _ _ _; refine Post.seq ?_))
          refine CW.any 14 mixed (rb_tail (by kernel_rfl)) rfl fun w1 hw1 hRB => ?_
          replace hw := Ext.trans hw hw1; replace hb3 := hb3.ext hw1; replace hb6 := hb6.ext hw1; replace hb8 := hb8.ext hw1; replace hX := hX.ext hw1; replace hT := hT.ext hw1; clear hw1
          refine SA.take 0 hRB rfl (by kernel_rfl) (by kernel_rfl) rfl ?_
          repeat ((show SW _ _ _ _ (⟨_, Op.fieldAddr _ _ _, _, _, _, none⟩ :: _) _ _; refine SW.st (st_field rfl) rfl ?_))
          refine SW.tknil ?_
          refine SA.take 1 hRB rfl (by kernel_rfl) (by kernel_rfl) rfl ?_
          repeat ((show SW _ _ _ _ (⟨_, Op.load _ _, _, _, _, none⟩ :: _) _ _; refine SW.st (st_load rfl (hb8.cell rfl)) rfl ?_))
          refine SW.tknil ?_
          refine SA.take 2 hRB rfl (by kernel_rfl) (by kernel_rfl) rfl ?_
          repeat (refine SW.pure rfl rfl ?_)
          refine SW.tknil ?_
          refine SA.take 3 hRB rfl (by kernel_rfl) (by kernel_rfl) rfl ?_
          repeat (refine SW.pure rfl rfl ?_)
          refine SW.tknil ?_
          refine SA.take 4 hRB rfl (by kernel_rfl) (by kernel_rfl) rfl ?_
          repeat ((show SW _ _ _ _ (⟨_, Op.fieldAddr _ _ _, _, _, _, none⟩ :: _) _ _; refine SW.st (st_field rfl) rfl ?_))
          refine SW.tknil ?_
          refine SA.take 5 hRB rfl (by kernel_rfl) (by kernel_rfl) rfl ?_
          repeat ((show SW _ _ _ _ (⟨_, Op.load _ _, _, _, _, none⟩ :: _) _ _; refine SW.st (st_load rfl (hb8.cell rfl)) rfl ?_))
          refine SW.tknil ?_
          refine SA.take 6 hRB rfl (by kernel_rfl) (by kernel_rfl) rfl ?_
          repeat (refine SW.pure rfl rfl ?_)
          refine SW.tknil ?_
          refine SA.take 7 hRB rfl (by kernel_rfl) (by kernel_rfl) rfl ?_
          repeat ((show SW _ _ _ _ (⟨_, Op.fieldAddr _ _ _, _, _, _, none⟩ :: _) _ _; refine SW.st (st_field rfl) rfl ?_))
          refine SW.tknil ?_
          refine SA.take 8 hRB rfl (by kernel_rfl) (by kernel_rfl) rfl ?_
          repeat ((show SW _ _ _ _ (⟨_, Op.load _ _, _, _, _, none⟩ :: _) _ _; refine SW.st (st_load rfl (hb3.cell rfl)) rfl ?_))
          refine SW.tknil ?_
          refine SA.take 9 hRB rfl (by kernel_rfl) (by kernel_rfl) rfl ?_
          repeat ((show SW _ _ _ _ (⟨_, Op.binOp _ _ _ _ _, _, _, _, none⟩ :: _) _ _; refine SW.st (st_sub rfl rfl (by omega) (by omega)) rfl ?_))
          refine SW.tknil ?_
          refine SA.take 10 hRB rfl (by kernel_rfl) (by kernel_rfl) rfl ?_
          repeat ((show SW _ _ _ _ (⟨_, Op.binOp _ _ _ _ _, _, _, _, none⟩ :: _) _ _; refine SW.st (st_quo rfl rfl (by omega) (by omega) (by omega)) rfl ?_))
          refine SW.tknil ?_
          refine SA.take 11 hRB rfl (by kernel_rfl) (by kernel_rfl) rfl ?_
          repeat ((show SW _ _ _ _ (⟨_, Op.indexAddr _ _ _, _, _, _, none⟩ :: _) _ _; refine SW.st (st_indexI (k) rfl rfl (by assumption) (by omega) (by omega)) rfl ?_))
          refine SW.tknil ?_
          refine SA.take 12 hRB rfl (by kernel_rfl) (by kernel_rfl) rfl ?_
          repeat ((show SW _ _ _ _ (⟨_, Op.load _ _, _, _, _, none⟩ :: _) _ _; refine SW.st (st_load rfl (hT.sl.one hkn rfl)) rfl ?_))
          refine SW.tknil ?_
          refine SA.take 13 hRB rfl (by kernel_rfl) (by kernel_rfl) rfl ?_
          repeat ((show SW _ _ _ _ (⟨_, Op.build _ _, _, _, _, none⟩ :: _) _ _; refine SW.st (st_build rfl rfl) rfl ?_))
          refine SW.tknil ?_
          refine SA.done (by kernel_rfl) ?_
          refine SW.call rfl rfl (withBlock_ans A l.length c l ⟨a', o', z.Types[k]⟩ _ hX.sl (Nat.le_trans (Nat.mul_le_mul_right 24 (by omega)) hf)) fun v w5 hw5 hv => ?_
          obtain ⟨B, d, rfl, hY⟩ := hv
          replace hY := hY.low hw.size
          (replace hw := Ext.trans hw hw5; replace hb3 := hb3.ext hw5; replace hb6 := hb6.ext hw5; replace hb8 := hb8.ext hw5; replace hX := hX.ext hw5; replace hT := hT.ext hw5)
          repeat' ((show SW _ _ _ _ (⟨_, Op.fieldAddr _ _ _, _, _, _, none⟩ :: _) _ _; refine SW.st (st_field rfl) rfl ?_))
          refine SW.storeB (i := 2) hb8 rfl rfl rfl rfl fun w7 hb8' hg => ?_
          have hG := hb8.gr hg
          replace hw := hw.own hb8w hg
          replace hb6 := hb6.grown hg (by simpa using hne68)
          (replace hY := hY.grT hG rfl; replace hT := hT.grT hG rfl)
          repeat' (first | (show CW _ _ _ _ _ _; first | refine CW.seq ?_ | refine CW.region ?_) | (show Post _ _ _ _ _; first | refine Post.seq ?_ | refine Post.np ?_) | refine SW.nil ?_ | (show SW _ _ _ _ (⟨_, Op.load _ _, _, _, _, none⟩ :: _) _ _; refine SW.st (st_loads rfl rfl ((fun _ _ => hb8'.cell))) rfl ?_))
          refine SW.storeAgg hb6 rfl rfl rfl rfl (one_z ⟨s.From, s.To, ⟨B, l.length + 1, d⟩, s.Types⟩) fun w9 hR2 hg => ?_
          have hG := hb6.gr hg
          replace hw := hw.own hb6w hg
          (replace hY := hY.grT hG rfl; replace hT := hT.grT hG rfl)
          repeat' (first | (show CW _ _ _ _ _ _; refine CW.ret ?_) | (show Post _ _ _ _ _; refine Post.seq ?_) | refine SW.nil ?_ | refine SW.pure rfl rfl ?_)
          exact Post.ret2c rfl rfl rfl hR2 rfl ⟨_, rfl, hw, ⟨s.From, s.To, ⟨B, l.length + 1, d⟩, s.Types⟩, rfl, sF, sT, hY, hT⟩
      · rw [hov] at cC
        rw [backV_5 hq hfit hov]
        repeat' (first | (show CW _ _ _ _ _ _; first | refine CW.seq ?_ | refine CW.region ?_ | refine CW.condtr rfl (by with_reducible rfl) ?_ | refine CW.condf rfl ?_ | refine CW.skip ?_) | (show Post _ _ _ _ _; refine Post.seq ?_) | refine SW.nil ?_ | refine SW.pure rfl rfl ?_ | (show SW _ _ _ _ (⟨_, Op.fieldAddr _ _ _, _, _, _, none⟩ :: _) _ _; refine SW.st (st_field rfl) rfl ?_) | (show SW _ _ _ _ (⟨_, Op.build _ _, _, _, _, none⟩ :: _) _ _; refine SW.st (st_build rfl rfl) rfl ?_) | (show SW _ _ _ _ (⟨_, Op.load _ _, _, _, _, none⟩ :: _) _ _; first | refine SW.st (st_loads rfl rfl ((fun _ _ => hb3.cell))) rfl ?_ | refine SW.st (st_load rfl (hb3.cell rfl)) rfl ?_) | (show SW _ _ _ _ (⟨_, Op.call ⟨.value (.func _), _, _⟩, _, _, _, none⟩ :: _) _ _; first | (refine SW.call rfl rfl (c1 _ hw) ?_; intro v w1 hw1 hv; subst hv; replace hw := Ext.trans hw hw1; replace hb3 := hb3.ext hw1; replace hb6 := hb6.ext hw1; clear hw1) | (refine SW.call rfl rfl (cF _) ?_; intro v w1 hw1 hv; subst hv; replace hw := Ext.trans hw hw1; replace hb3 := hb3.ext hw1; replace hb6 := hb6.ext hw1; clear hw1) | (refine SW.call rfl rfl (cC _ hw) ?_; intro v w1 hw1 hv; subst hv; replace hw := Ext.trans hw hw1; replace hb3 := hb3.ext hw1; replace hb6 := hb6.ext hw1; clear hw1)))
        refine SW.storeAgg hb6 rfl rfl rfl rfl (one_z .zero) fun w5 hR2 hg => ?_
        replace hw := hw.own hb6w hg
        repeat' (first | (show CW _ _ _ _ _ _; refine CW.ret ?_) | (show Post _ _ _ _ _; first | refine Post.seq ?_ | refine Post.seq_ret ?_) | refine SW.nil ?_ | refine SW.pure rfl rfl ?_)
        exact Post.ret2c rfl rfl rfl hR2 rfl ⟨_, rfl, hw, .zero, rfl, OwnZ.zero _ _⟩
    · rw [decide_eq_false hfit] at cF
      rw [backV_1 hq hfit]
      repeat' (first | (show CW _ _ _ _ _ _; first | refine CW.seq ?_ | refine CW.region ?_ | refine CW.condt rfl ?_ | refine CW.condf rfl ?_ | refine CW.skip ?_) | (show Post _ _ _ _ _; refine Post.seq ?_) | refine SW.nil ?_ | refine SW.pure rfl rfl ?_ | (show SW _ _ _ _ (⟨_, Op.build _ _, _, _, _, none⟩ :: _) _ _; refine SW.st (st_build rfl rfl) rfl ?_) | (show SW _ _ _ _ (⟨_, Op.load _ _, _, _, _, none⟩ :: _) _ _; refine SW.st (st_loads rfl rfl ((fun _ _ => hb3.cell))) rfl ?_) | (show SW _ _ _ _ (⟨_, Op.call ⟨.value (.func _), _, _⟩, _, _, _, none⟩ :: _) _ _; first | (refine SW.call rfl rfl (c1 _ hw) ?_; intro v w1 hw1 hv; subst hv; replace hw := Ext.trans hw hw1; replace hb3 := hb3.ext hw1; replace hb6 := hb6.ext hw1; clear hw1) | (refine SW.call rfl rfl (cF _) ?_; intro v w1 hw1 hv; subst hv; replace hw := Ext.trans hw hw1; replace hb3 := hb3.ext hw1; replace hb6 := hb6.ext hw1; clear hw1)))
      refine SW.storeAgg hb6 rfl rfl rfl rfl (one_z .zero) fun w5 hR2 hg => ?_
      replace hw := hw.own hb6w hg
      repeat' (first | (show CW _ _ _ _ _ _; refine CW.ret ?_) | (show Post _ _ _ _ _; first | refine Post.seq ?_ | refine Post.seq_ret ?_) | refine SW.nil ?_ | refine SW.pure rfl rfl ?_)
      exact Post.ret2c rfl rfl rfl hR2 rfl ⟨_, rfl, hw, .zero, rfl, OwnZ.zero _ _⟩
end Go.Proofs.Ytfdmgflboibdoaa

/-
  Contracts: pages.zone, pages.back; zoneAt, returned of the reference.
-/
set_option linter.unusedVariables false
set_option linter.unusedSimpArgs false
namespace Go.Proofs.Ytfdmgflboibdoaa
open Go.RowKit

/-- the two zones of a heap that is the call's own -/
structure ZsOwn (w : World) (lo g c : Nat) (u0 u1 : ZRow) (s : Zone × Zone) : Prop where
  row : Own w lo 38 4 encZ (some ⟨g, 0, none⟩) 2 c [u0, u1]
  z0 : OwnZ w lo u0 s.1
  z1 : OwnZ w lo u1 s.2
  glo : lo ≤ g
  pos : 0 < c
section
variable {w w' : World} {lo lo' g c t : Nat} {u0 u1 : ZRow} {s : Zone × Zone}
theorem ZsOwn.ext (h : ZsOwn w lo g c u0 u1 s) (hx : Ext w w') : ZsOwn w' lo g c u0 u1 s := ⟨h.row.ext hx, h.z0.ext hx, h.z1.ext hx, h.glo, h.pos⟩
theorem ZsOwn.grT (h : ZsOwn w lo g c u0 u1 s) (hG : GrT w w' t) (hne : (Nat.beq t 38 || (Nat.beq t 3 || Nat.beq t 86)) = false) : ZsOwn w' lo g c u0 u1 s := by
  rw [Bool.or_eq_false_iff] at hne
  exact ⟨h.row.grT hG hne.1, h.z0.grT hG hne.2, h.z1.grT hG hne.2, h.glo, h.pos⟩
theorem ZsOwn.own (h : ZsOwn w lo g c u0 u1 s) : ownB (some (⟨g, 0, none⟩ : Addr)) c = some g := by simp [ownB, Nat.pos_iff_ne_zero.1 h.pos]
theorem ZsOwn.gr (h : ZsOwn w lo g c u0 u1 s) (hg : w.grownBy w' (some g)) : GrT w w' 38 := h.row.gr (by rw [h.own]; exact hg)
theorem may_fit {u : ZRow} {z : Zone} (h : OwnZ w lo u z) (hz : ZoneMay z) : (u.Free.n + 1) * 24 ≤ 140737488355328 ∧ u.Types.n * 8 ≤ 140737488355328 ∧ (0 ≤ u.From ∧ u.From ≤ 256) ∧ (0 ≤ u.To ∧ u.To ≤ 256) := by
  have e1 := h.free.sl.len
  have e2 := h.types.sl.len
  have e3 := h.from_
  have e4 := h.to_
  have hl := zone_len hz
  obtain ⟨o1, o2, o3, o4, o5⟩ := hz.ok
  refine ⟨Nat.le_trans (Nat.mul_le_mul_right 24 (show u.Free.n + 1 ≤ 258 by omega)) (by decide), by omega, by omega, by omega⟩
end

theorem zone2_ans (r : HRow) (u0 u1 : ZRow) (p : Int) (w : World) (hz : Sl w 4 encZ r.Zones.A r.Zones.n [u0, u1]) :
    Ans Try.prog 127 [.agg (encH r).toArray, .int .i64 p] w fun v _ => v = .int .i64 (if p < u0.To then 0 else 1) := by
  refine ans_of Try.func127 rfl Try.ntmps127 rfl ?_
  refine CW.seq (CW.region (SW.box rfl rfl fun b1 w1 hw hb1b hb1 => ?_))
  have hA := hz.base
  have hn : 2 = r.Zones.n := hz.len
  have h0 : 0 < r.Zones.n := by omega
  have f0 := hz.fld h0 (j := 1) (u := .int .i64 u0.To) rfl
  repeat' (first | (show CW _ _ _ _ _ _; first | refine CW.seq ?_ | refine CW.region ?_ | refine CW.condd rfl (fun h => ?_) (fun h => ?_) | refine CW.skip ?_ | refine CW.ret ?_) | (show Post _ _ _ _ _; first | refine Post.seq ?_ | refine Post.seq_ret ?_) | refine SW.nil ?_ | refine SW.pure rfl rfl ?_ | (show SW _ _ _ _ (⟨_, Op.fieldAddr _ _ _, _, _, _, none⟩ :: _) _ _; refine SW.st (st_field rfl) rfl ?_) | (show SW _ _ _ _ (⟨_, Op.indexAddr _ _ _, _, _, _, none⟩ :: _) _ _; refine SW.st (st_indexN rfl rfl (by assumption) (by omega)) rfl ?_) | (show SW _ _ _ _ (⟨_, Op.load _ _, _, _, _, none⟩ :: _) _ _; first | refine SW.st (st_load rfl (hb1.cell rfl)) rfl ?_ | refine SW.st (st_loadx hw rfl f0) rfl ?_))
  all_goals
    refine Post.ret1 rfl rfl ⟨_, rfl, hw, ?_⟩
    first | (rw [if_pos (by omega)]) | (rw [if_neg (by omega)])
theorem zoneAt2_ans (r : HRow) (u0 u1 : ZRow) (p : Int) (w : World) (hz : Sl w 4 encZ r.Zones.A r.Zones.n [u0, u1]) :
    Ans Try.prog 131 [.agg (encH r).toArray, .int .i64 p] w fun v _ => v = .int .i64 (if p < u1.From then 0 else 1) := by
  refine ans_of Try.func131 rfl Try.ntmps131 rfl ?_
  refine CW.seq (CW.region (SW.box rfl rfl fun b1 w1 hw hb1b hb1 => ?_))
  have hA := hz.base
  have hn : 2 = r.Zones.n := hz.len
  have h0 : 1 < r.Zones.n := by omega
  have f0 := hz.fld h0 (j := 0) (u := .int .i64 u1.From) rfl
  repeat' (first | (show CW _ _ _ _ _ _; first | refine CW.seq ?_ | refine CW.region ?_ | refine CW.condd rfl (fun h => ?_) (fun h => ?_) | refine CW.skip ?_ | refine CW.ret ?_) | (show Post _ _ _ _ _; first | refine Post.seq ?_ | refine Post.seq_ret ?_) | refine SW.nil ?_ | refine SW.pure rfl rfl ?_ | (show SW _ _ _ _ (⟨_, Op.fieldAddr _ _ _, _, _, _, none⟩ :: _) _ _; refine SW.st (st_field rfl) rfl ?_) | (show SW _ _ _ _ (⟨_, Op.indexAddr _ _ _, _, _, _, none⟩ :: _) _ _; refine SW.st (st_indexN rfl rfl (by assumption) (by omega)) rfl ?_) | (show SW _ _ _ _ (⟨_, Op.load _ _, _, _, _, none⟩ :: _) _ _; first | refine SW.st (st_load rfl (hb1.cell rfl)) rfl ?_ | refine SW.st (st_loadx hw rfl f0) rfl ?_))
  all_goals
    refine Post.ret1 rfl rfl ⟨_, rfl, hw, ?_⟩
    first | (rw [if_pos (by omega)]) | (rw [if_neg (by omega)])

def BackRes (w : World) (lo g c : Nat) (s : Zone × Zone) (b : Block) (w' : World) : Prop := w.grownBy w' (some g) ∧ ∃ u0 u1, ZsOwn w' lo g c u0 u1 (backP s b)

theorem back2_ans (m : Sli) (cp : Int) (li lv : Sli) (u0 u1 : ZRow) (s : Zone × Zone) (bs : List Block) (b : Block) (lo g c b1 : Nat) (w : World) (hb1 : Blk w b1 27 (encH ⟨⟨some ⟨g, 0, none⟩, 2, c⟩, m, cp, li, lv⟩)) (hZ : ZsOwn w lo g c u0 u1 s) (hlo : lo ≤ w.heap.size) (hD : DInv s bs) (hN : NextB bs b) :
    AnsX Try.prog 126 [.pointer (some ⟨b1, 0, none⟩), .int .i64 b.At, .int .i64 b.Order] w fun v w' => BackRes w lo g c s b w' := by
  refine ansx_of Try.func126 rfl Try.ntmps126 rfl ?_
  have hw := Ext.refl w
  have eT := hZ.z0.to_
  obtain ⟨q1, q2, q3, q4⟩ := may_fit hZ.z0 hD.may0
  obtain ⟨p1, p2, p3, p4⟩ := may_fit hZ.z1 hD.may1
  have hA := hZ.row.sl.base
  have cz : ∀ w', Sl w' 4 encZ (some ⟨g, 0, none⟩) 2 [u0, u1] → Ans Try.prog 127 [.agg (encH ⟨⟨some ⟨g, 0, none⟩, 2, c⟩, m, cp, li, lv⟩).toArray, .int .i64 b.At] w' fun v _ => v = .int .i64 (if b.At < u0.To then 0 else 1) := fun w' h => zone2_ans ⟨⟨some ⟨g, 0, none⟩, 2, c⟩, m, cp, li, lv⟩ u0 u1 b.At w' h
  by_cases hx : b.At < u0.To
  · have eP : backP s b = ((backV s.1 b.At b.Order).2, s.2) := by unfold backP; rw [if_pos (by omega)]
    simp only [if_pos hx] at cz
    have hz0 := hZ.row.sl
    have k0 : 0 < 2 := by omega
    repeat' (first | (show CW _ _ _ _ _ _; first | refine CW.seq ?_ | refine CW.region ?_) | (show Post _ _ _ _ _; refine Post.seq ?_) | refine SW.nil ?_ | refine SW.pure rfl rfl ?_ | (show SW _ _ _ _ (⟨_, Op.nilCheck _, _, _, _, none⟩ :: _) _ _; refine SW.st (st_nilCheck rfl) rfl ?_) | (show SW _ _ _ _ (⟨_, Op.load _ _, _, _, _, none⟩ :: _) _ _; refine SW.st (st_loads rfl rfl ((fun _ _ => hb1.cell))) rfl ?_) | (show SW _ _ _ _ (⟨_, Op.call ⟨.value (.func _), _, _⟩, _, _, _, none⟩ :: _) _ _; (refine SW.call rfl rfl (cz _ hZ.row.sl) ?_; intro v w1 hw1 hv; subst hv; replace hw := Ext.trans hw hw1; replace hb1 := hb1.ext hw1; replace hZ := hZ.ext hw1; clear hw1)))
    refine CW.anyF 19 19 (fun _ => True) mixed (by kernel_rfl) fun w1 hw1 hRB => ?_
    replace hw := Ext.trans hw hw1; replace hb1 := hb1.ext hw1; replace hZ := hZ.ext hw1; clear hw1
    refine SF.take 0 [] [] hRB rfl (by kernel_rfl) (by kernel_rfl) (by kernel_rfl) ?_
    repeat (refine SW.pure rfl rfl ?_)
    refine SW.tknil ?_
    refine SF.take 1 [] [] hRB rfl (by kernel_rfl) (by kernel_rfl) (by kernel_rfl) ?_
    repeat ((show SW _ _ _ _ (⟨_, Op.nilCheck _, _, _, _, none⟩ :: _) _ _; refine SW.st (st_nilCheck rfl) rfl ?_))
    refine SW.tknil ?_
    refine SF.take 2 [] [] hRB rfl (by kernel_rfl) (by kernel_rfl) (by kernel_rfl) ?_
    repeat ((show SW _ _ _ _ (⟨_, Op.fieldAddr _ _ _, _, _, _, none⟩ :: _) _ _; refine SW.st (st_field rfl) rfl ?_))
    refine SW.tknil ?_
    refine SF.take 3 [] [] hRB rfl (by kernel_rfl) (by kernel_rfl) (by kernel_rfl) ?_
    repeat ((show SW _ _ _ _ (⟨_, Op.load _ _, _, _, _, none⟩ :: _) _ _; refine SW.st (st_load rfl (hb1.cell rfl)) rfl ?_))
    refine SW.tknil ?_
    refine SF.take 4 [] [] hRB rfl (by kernel_rfl) (by kernel_rfl) (by kernel_rfl) ?_
    repeat (refine SW.pure rfl rfl ?_)
    refine SW.tknil ?_
    refine SF.take 5 [] [] hRB rfl (by kernel_rfl) (by kernel_rfl) (by kernel_rfl) ?_
    repeat (refine SW.pure rfl rfl ?_)
    refine SW.tknil ?_
    refine SF.take 6 [] [] hRB rfl (by kernel_rfl) (by kernel_rfl) (by kernel_rfl) ?_
    repeat ((show SW _ _ _ _ (⟨_, Op.nilCheck _, _, _, _, none⟩ :: _) _ _; refine SW.st (st_nilCheck rfl) rfl ?_))
    refine SW.tknil ?_
    refine SF.take 7 [] [] hRB rfl (by kernel_rfl) (by kernel_rfl) (by kernel_rfl) ?_
    repeat ((show SW _ _ _ _ (⟨_, Op.fieldAddr _ _ _, _, _, _, none⟩ :: _) _ _; refine SW.st (st_field rfl) rfl ?_))
    refine SW.tknil ?_
    refine SF.take 8 [] [] hRB rfl (by kernel_rfl) (by kernel_rfl) (by kernel_rfl) ?_
    repeat ((show SW _ _ _ _ (⟨_, Op.load _ _, _, _, _, none⟩ :: _) _ _; refine SW.st (st_load rfl (hb1.cell rfl)) rfl ?_))
    refine SW.tknil ?_
    refine SF.take 9 [] [] hRB rfl (by kernel_rfl) (by kernel_rfl) (by kernel_rfl) ?_
    repeat (refine SW.pure rfl rfl ?_)
    refine SW.tknil ?_
    refine SF.take 10 [] [] hRB rfl (by kernel_rfl) (by kernel_rfl) (by kernel_rfl) ?_
    repeat ((show SW _ _ _ _ (⟨_, Op.indexAddr _ _ _, _, _, _, none⟩ :: _) _ _; refine SW.st (st_indexN rfl rfl (by assumption) (by omega)) rfl ?_))
    refine SW.tknil ?_
    refine SF.take 11 [] [] hRB rfl (by kernel_rfl) (by kernel_rfl) (by kernel_rfl) ?_
    repeat ((show SW _ _ _ _ (⟨_, Op.load _ _, _, _, _, none⟩ :: _) _ _; refine SW.st (st_loads rfl rfl ((hZ.row.sl.all k0))) rfl ?_))
    refine SW.tknil ?_
    refine SF.take 12 [] [] hRB rfl (by kernel_rfl) (by kernel_rfl) (by kernel_rfl) ?_
    repeat (refine SW.pure rfl rfl ?_)
    refine SW.tknil ?_
    refine SF.take 13 [] [] hRB rfl (by kernel_rfl) (by kernel_rfl) (by kernel_rfl) ?_
    repeat (refine SW.pure rfl rfl ?_)
    refine SW.tknil ?_
    refine SF.one 14 rfl (by kernel_rfl) rfl ?_
    refine SW.call rfl rfl (Zback_ans u0 s.1 b.At b.Order _ hZ.z0.rd q1 q2 ⟨by omega, by omega⟩ ⟨by omega, by omega⟩) fun v w4 hXX hv => ?_
    obtain ⟨u', rfl, hs'⟩ := hv
    replace hs' := hs'.low (Nat.le_trans hlo hw.size)
    (replace hw := Ext.trans hw hXX; replace hb1 := hb1.ext hXX; replace hZ := hZ.ext hXX)
    refine SW.nil (Post.sf hXX ?_)
    refine SF.take 15 [] [] hRB rfl (by kernel_rfl) (by kernel_rfl) (by kernel_rfl) ?_
    repeat (refine SW.pure rfl rfl ?_)
    refine SW.tknil ?_
    refine SF.take 16 [] [] hRB rfl (by kernel_rfl) (by kernel_rfl) (by kernel_rfl) ?_
    repeat (refine SW.pure rfl rfl ?_)
    refine SW.tknil ?_
    refine SF.takeX 17 hRB rfl (by kernel_rfl) (by kernel_rfl) rfl (fun _ => pureV_st rfl) rfl ?_
    refine SF.take 18 [] [] hRB rfl (by kernel_rfl) (by kernel_rfl) (by kernel_rfl) ?_
    repeat ((show SW _ _ _ _ (⟨_, Op.indexAddr _ _ _, _, _, _, none⟩ :: _) _ _; refine SW.st (st_indexN rfl rfl (by assumption) (by omega)) rfl ?_))
    refine SW.tknil ?_
    refine SF.last rfl (by kernel_rfl) (by kernel_rfl) ?_
    refine SW.storeElem (enc := encZ) 0 u' hZ.row rfl rfl k0 fun w5 hO hg => ?_
    rw [hZ.own] at hg
    have hG := hZ.gr hg
    have hgg := grown_trans (hw.gr (some g)) hg (.inl rfl)
    repeat' (first | (show Post _ _ _ _ _; refine Post.np ?_) | refine SW.nil ?_)
    exact Post.end0 rfl ⟨_, rfl, hgg, u', u1, by rw [eP]; exact ⟨hO, hs'.grT hG rfl, hZ.z1.grT hG rfl, hZ.glo, hZ.pos⟩⟩
  · have eP : backP s b = (s.1, (backV s.2 b.At b.Order).2) := by unfold backP; rw [if_neg (by omega)]
    simp only [if_neg hx] at cz
    have k0 : 1 < 2 := by omega
    repeat' (first | (show CW _ _ _ _ _ _; first | refine CW.seq ?_ | refine CW.region ?_) | (show Post _ _ _ _ _; refine Post.seq ?_) | refine SW.nil ?_ | refine SW.pure rfl rfl ?_ | (show SW _ _ _ _ (⟨_, Op.nilCheck _, _, _, _, none⟩ :: _) _ _; refine SW.st (st_nilCheck rfl) rfl ?_) | (show SW _ _ _ _ (⟨_, Op.load _ _, _, _, _, none⟩ :: _) _ _; refine SW.st (st_loads rfl rfl ((fun _ _ => hb1.cell))) rfl ?_) | (show SW _ _ _ _ (⟨_, Op.call ⟨.value (.func _), _, _⟩, _, _, _, none⟩ :: _) _ _; (refine SW.call rfl rfl (cz _ hZ.row.sl) ?_; intro v w1 hw1 hv; subst hv; replace hw := Ext.trans hw hw1; replace hb1 := hb1.ext hw1; replace hZ := hZ.ext hw1; clear hw1)))
    refine CW.anyF 19 19 (fun _ => True) mixed (by kernel_rfl) fun w1 hw1 hRB => ?_
    replace hw := Ext.trans hw hw1; replace hb1 := hb1.ext hw1; replace hZ := hZ.ext hw1; clear hw1
    refine SF.take 0 [] [] hRB rfl (by kernel_rfl) (by kernel_rfl) (by kernel_rfl) ?_
    repeat (refine SW.pure rfl rfl ?_)
    refine SW.tknil ?_
    refine SF.take 1 [] [] hRB rfl (by kernel_rfl) (by kernel_rfl) (by kernel_rfl) ?_
    repeat ((show SW _ _ _ _ (⟨_, Op.nilCheck _, _, _, _, none⟩ :: _) _ _; refine SW.st (st_nilCheck rfl) rfl ?_))
    refine SW.tknil ?_
    refine SF.take 2 [] [] hRB rfl (by kernel_rfl) (by kernel_rfl) (by kernel_rfl) ?_
    repeat ((show SW _ _ _ _ (⟨_, Op.fieldAddr _ _ _, _, _, _, none⟩ :: _) _ _; refine SW.st (st_field rfl) rfl ?_))
    refine SW.tknil ?_
    refine SF.take 3 [] [] hRB rfl (by kernel_rfl) (by kernel_rfl) (by kernel_rfl) ?_
    repeat ((show SW _ _ _ _ (⟨_, Op.load _ _, _, _, _, none⟩ :: _) _ _; refine SW.st (st_load rfl (hb1.cell rfl)) rfl ?_))
    refine SW.tknil ?_
    refine SF.take 4 [] [] hRB rfl (by kernel_rfl) (by kernel_rfl) (by kernel_rfl) ?_
    repeat (refine SW.pure rfl rfl ?_)
    refine SW.tknil ?_
    refine SF.take 5 [] [] hRB rfl (by kernel_rfl) (by kernel_rfl) (by kernel_rfl) ?_
    repeat (refine SW.pure rfl rfl ?_)
    refine SW.tknil ?_
    refine SF.take 6 [] [] hRB rfl (by kernel_rfl) (by kernel_rfl) (by kernel_rfl) ?_
    repeat ((show SW _ _ _ _ (⟨_, Op.nilCheck _, _, _, _, none⟩ :: _) _ _; refine SW.st (st_nilCheck rfl) rfl ?_))
    refine SW.tknil ?_
    refine SF.take 7 [] [] hRB rfl (by kernel_rfl) (by kernel_rfl) (by kernel_rfl) ?_
    repeat ((show SW _ _ _ _ (⟨_, Op.fieldAddr _ _ _, _, _, _, none⟩ :: _) _ _; refine SW.st (st_field rfl) rfl ?_))
    refine SW.tknil ?_
    refine SF.take 8 [] [] hRB rfl (by kernel_rfl) (by kernel_rfl) (by kernel_rfl) ?_
    repeat ((show SW _ _ _ _ (⟨_, Op.load _ _, _, _, _, none⟩ :: _) _ _; refine SW.st (st_load rfl (hb1.cell rfl)) rfl ?_))
    refine SW.tknil ?_
    refine SF.take 9 [] [] hRB rfl (by kernel_rfl) (by kernel_rfl) (by kernel_rfl) ?_
    repeat (refine SW.pure rfl rfl ?_)
    refine SW.tknil ?_
    refine SF.take 10 [] [] hRB rfl (by kernel_rfl) (by kernel_rfl) (by kernel_rfl) ?_
    repeat ((show SW _ _ _ _ (⟨_, Op.indexAddr _ _ _, _, _, _, none⟩ :: _) _ _; refine SW.st (st_indexN rfl rfl (by assumption) (by omega)) rfl ?_))
    refine SW.tknil ?_
    refine SF.take 11 [] [] hRB rfl (by kernel_rfl) (by kernel_rfl) (by kernel_rfl) ?_
    repeat ((show SW _ _ _ _ (⟨_, Op.load _ _, _, _, _, none⟩ :: _) _ _; refine SW.st (st_loads rfl rfl ((hZ.row.sl.all k0))) rfl ?_))
    refine SW.tknil ?_
    refine SF.take 12 [] [] hRB rfl (by kernel_rfl) (by kernel_rfl) (by kernel_rfl) ?_
    repeat (refine SW.pure rfl rfl ?_)
    refine SW.tknil ?_
    refine SF.take 13 [] [] hRB rfl (by kernel_rfl) (by kernel_rfl) (by kernel_rfl) ?_
    repeat (refine SW.pure rfl rfl ?_)
    refine SW.tknil ?_
    refine SF.one 14 rfl (by kernel_rfl) rfl ?_
    refine SW.call rfl rfl (Zback_ans u1 s.2 b.At b.Order _ hZ.z1.rd p1 p2 ⟨by omega, by omega⟩ ⟨by omega, by omega⟩) fun v w4 hXX hv => ?_
    obtain ⟨u', rfl, hs'⟩ := hv
    replace hs' := hs'.low (Nat.le_trans hlo hw.size)
    (replace hw := Ext.trans hw hXX; replace hb1 := hb1.ext hXX; replace hZ := hZ.ext hXX)
    refine SW.nil (Post.sf hXX ?_)
    refine SF.take 15 [] [] hRB rfl (by kernel_rfl) (by kernel_rfl) (by kernel_rfl) ?_
    repeat (refine SW.pure rfl rfl ?_)
    refine SW.tknil ?_
    refine SF.take 16 [] [] hRB rfl (by kernel_rfl) (by kernel_rfl) (by kernel_rfl) ?_
    repeat (refine SW.pure rfl rfl ?_)
    refine SW.tknil ?_
    refine SF.takeX 17 hRB rfl (by kernel_rfl) (by kernel_rfl) rfl (fun _ => pureV_st rfl) rfl ?_
    refine SF.take 18 [] [] hRB rfl (by kernel_rfl) (by kernel_rfl) (by kernel_rfl) ?_
    repeat ((show SW _ _ _ _ (⟨_, Op.indexAddr _ _ _, _, _, _, none⟩ :: _) _ _; refine SW.st (st_indexN rfl rfl (by assumption) (by omega)) rfl ?_))
    refine SW.tknil ?_
    refine SF.last rfl (by kernel_rfl) (by kernel_rfl) ?_
    refine SW.storeElem (enc := encZ) 1 u' hZ.row rfl rfl k0 fun w5 hO hg => ?_
    rw [hZ.own] at hg
    have hG := hZ.gr hg
    have hgg := grown_trans (hw.gr (some g)) hg (.inl rfl)
    repeat' (first | (show Post _ _ _ _ _; refine Post.np ?_) | refine SW.nil ?_)
    exact Post.end0 rfl ⟨_, rfl, hgg, u0, u', by rw [eP]; exact ⟨hO, hZ.z0.grT hG rfl, hs'.grT hG rfl, hZ.glo, hZ.pos⟩⟩

theorem returned_ans (m : Sli) (cp : Int) (li lv : Sli) (u0 u1 : ZRow) (s : Zone × Zone) (bs : List Block) (b : Block) (lo g c : Nat) (w : World) (hZ : ZsOwn w lo g c u0 u1 s) (hlo : lo ≤ w.heap.size) (hD : DInv s bs) (hN : NextB bs b) :
    AnsX Try.prog 130 [.agg (encH ⟨⟨some ⟨g, 0, none⟩, 2, c⟩, m, cp, li, lv⟩).toArray, .int .i64 b.At, .int .i64 b.Order] w fun v w' => v = .agg (encH ⟨⟨some ⟨g, 0, none⟩, 2, c⟩, m, cp, li, lv⟩).toArray ∧ BackRes w lo g c s b w' := by
  refine ansx_of Try.func130 rfl Try.ntmps130 rfl ?_
  refine CW.seq (CW.region (SW.box rfl rfl fun b3 w1 hw hb3b hb3 => ?_))
  refine SW.alloc rfl fun b6 w2 hw2 hb6b hb6 => ?_
  have hb6w : w.heap.size ≤ b6 := Nat.le_trans hw.size hb6b
  (replace hw := Ext.trans hw hw2; replace hb3 := hb3.ext hw2)
  replace hZ := hZ.ext hw
  have eT := hZ.z0.to_
  have eF := hZ.z1.from_
  have eM := hD.mid
  obtain ⟨q1, q2, q3, q4⟩ := may_fit hZ.z0 hD.may0
  obtain ⟨p1, p2, p3, p4⟩ := may_fit hZ.z1 hD.may1
  have hA := hZ.row.sl.base
  have cz : ∀ w', Sl w' 4 encZ (some ⟨g, 0, none⟩) 2 [u0, u1] → Ans Try.prog 131 [.agg (encH ⟨⟨some ⟨g, 0, none⟩, 2, c⟩, m, cp, li, lv⟩).toArray, .int .i64 b.At] w' fun v _ => v = .int .i64 (if b.At < u1.From then 0 else 1) := fun w' h => zoneAt2_ans ⟨⟨some ⟨g, 0, none⟩, 2, c⟩, m, cp, li, lv⟩ u0 u1 b.At w' h
  by_cases hx : b.At < u1.From
  · have eP : backP s b = ((backV s.1 b.At b.Order).2, s.2) := by unfold backP; rw [if_pos (by omega)]
    simp only [if_pos hx] at cz
    have k0 : 0 < 2 := by omega
    repeat' (first | (show CW _ _ _ _ _ _; first | refine CW.seq ?_ | refine CW.region ?_) | (show Post _ _ _ _ _; refine Post.seq ?_) | refine SW.nil ?_ | refine SW.pure rfl rfl ?_ | (show SW _ _ _ _ (⟨_, Op.fieldAddr _ _ _, _, _, _, none⟩ :: _) _ _; refine SW.st (st_field rfl) rfl ?_) | (show SW _ _ _ _ (⟨_, Op.load _ _, _, _, _, none⟩ :: _) _ _; refine SW.st (st_loads rfl rfl ((fun _ _ => hb3.cell))) rfl ?_) | (show SW _ _ _ _ (⟨_, Op.call ⟨.value (.func _), _, _⟩, _, _, _, none⟩ :: _) _ _; (refine SW.call rfl rfl (cz _ hZ.row.sl) ?_; intro v w1 hw1 hv; subst hv; replace hw := Ext.trans hw hw1; replace hb3 := hb3.ext hw1; replace hb6 := hb6.ext hw1; replace hZ := hZ.ext hw1; clear hw1)))
    repeat' (first | refine SW.pure rfl rfl ?_ | (show SW _ _ _ _ (⟨_, Op.indexAddr _ _ _, _, _, _, none⟩ :: _) _ _; refine SW.st (st_indexN rfl rfl (by assumption) (by omega)) rfl ?_) | (show SW _ _ _ _ (⟨_, Op.load _ _, _, _, _, none⟩ :: _) _ _; first | refine SW.st (st_load rfl (hb3.cell rfl)) rfl ?_ | refine SW.st (st_loads rfl rfl ((hZ.row.sl.all k0))) rfl ?_))
    refine SW.call rfl rfl (BackOf_ans u0 s.1 b.At b.Order _ hZ.z0.rd q1 q2 ⟨by omega, by omega⟩ ⟨by omega, by omega⟩) fun v w4 hXX hv => ?_
    obtain ⟨u', rfl, hs'⟩ := hv
    replace hs' := hs'.low (Nat.le_trans hlo hw.size)
    (replace hw := Ext.trans hw hXX; replace hb3 := hb3.ext hXX; replace hb6 := hb6.ext hXX; replace hZ := hZ.ext hXX)
    repeat' (refine SW.pure rfl rfl ?_)
    refine SW.alloc rfl fun b8 w1 hw1 hb8b hb8 => ?_
    skip
    refine SW.storeAgg hb8 rfl rfl rfl rfl (one_z u') fun w2 hb8' hg => ?_
    have hXX := hw1.own hb8b hg
    have hb8w : w.heap.size ≤ b8 := Nat.le_trans hw.size hb8b
    replace hw := Ext.trans hw hXX
    replace hb3 := hb3.ext hXX
    replace hb6 := hb6.ext hXX
    replace hZ := hZ.ext hXX
    replace hs' := hs'.ext hXX
    replace hb8 := hb8'
    clear hb8' hw1 hg hXX
    repeat' (first | (show CW _ _ _ _ _ _; first | refine CW.seq ?_ | refine CW.region ?_) | (show Post _ _ _ _ _; refine Post.seq ?_) | refine SW.nil ?_ | refine SW.pure rfl rfl ?_ | (show SW _ _ _ _ (⟨_, Op.fieldAddr _ _ _, _, _, _, none⟩ :: _) _ _; refine SW.st (st_field rfl) rfl ?_) | (show SW _ _ _ _ (⟨_, Op.indexAddr _ _ _, _, _, _, none⟩ :: _) _ _; refine SW.st (st_indexN rfl rfl (by assumption) (by omega)) rfl ?_) | (show SW _ _ _ _ (⟨_, Op.load _ _, _, _, _, none⟩ :: _) _ _; first | refine SW.st (st_load rfl (hb3.cell rfl)) rfl ?_ | refine SW.st (st_loads rfl rfl ((fun _ _ => hb8.cell))) rfl ?_))
    refine SW.storeElem (enc := encZ) 0 u' hZ.row rfl rfl k0 fun w5 hO hg => ?_
    rw [hZ.own] at hg
    have hG := hZ.gr hg
    have hgg := grown_trans (hw.gr (some g)) hg (.inl rfl)
    have hZ' : ZsOwn w5 lo g c u' u1 (backP s b) := by rw [eP]; exact ⟨hO, hs'.grT hG rfl, hZ.z1.grT hG rfl, hZ.glo, hZ.pos⟩
    clear hZ hs' hb8 cz hO
    (replace hb3 := hb3.grT hG rfl; replace hb6 := hb6.grT hG rfl)
    have hw3 := Ext.refl w5
    clear hw
    have hw := hw3
    repeat' (first | (show CW _ _ _ _ _ _; first | refine CW.seq ?_ | refine CW.region ?_) | (show Post _ _ _ _ _; refine Post.seq ?_) | refine SW.nil ?_ | (show SW _ _ _ _ (⟨_, Op.load _ _, _, _, _, none⟩ :: _) _ _; refine SW.st (st_loads rfl rfl ((fun _ _ => hb3.cell))) rfl ?_))
    refine SW.storeAgg hb6 rfl rfl rfl rfl (one_h ⟨⟨some ⟨g, 0, none⟩, 2, c⟩, m, cp, li, lv⟩) fun w6 hR2 hg => ?_
    have hG := hb6.gr hg
    replace hgg := grown_trans hgg hg (.inr fun i e => by cases e; exact hb6w)
    repeat' (first | (show CW _ _ _ _ _ _; refine CW.ret ?_) | (show Post _ _ _ _ _; refine Post.seq ?_) | refine SW.nil ?_)
    exact Post.ret1c rfl rfl hR2 rfl ⟨_, rfl, rfl, hgg, u', u1, hZ'.grT hG rfl⟩
  · have eP : backP s b = (s.1, (backV s.2 b.At b.Order).2) := by unfold backP; rw [if_neg (by omega)]
    simp only [if_neg hx] at cz
    have k0 : 1 < 2 := by omega
    repeat' (first | (show CW _ _ _ _ _ _; first | refine CW.seq ?_ | refine CW.region ?_) | (show Post _ _ _ _ _; refine Post.seq ?_) | refine SW.nil ?_ | refine SW.pure rfl rfl ?_ | (show SW _ _ _ _ (⟨_, Op.fieldAddr _ _ _, _, _, _, none⟩ :: _) _ _; refine SW.st (st_field rfl) rfl ?_) | (show SW _ _ _ _ (⟨_, Op.load _ _, _, _, _, none⟩ :: _) _ _; refine SW.st (st_loads rfl rfl ((fun _ _ => hb3.cell))) rfl ?_) | (show SW _ _ _ _ (⟨_, Op.call ⟨.value (.func _), _, _⟩, _, _, _, none⟩ :: _) _ _; (refine SW.call rfl rfl (cz _ hZ.row.sl) ?_; intro v w1 hw1 hv; subst hv; replace hw := Ext.trans hw hw1; replace hb3 := hb3.ext hw1; replace hb6 := hb6.ext hw1; replace hZ := hZ.ext hw1; clear hw1)))
    repeat' (first | refine SW.pure rfl rfl ?_ | (show SW _ _ _ _ (⟨_, Op.indexAddr _ _ _, _, _, _, none⟩ :: _) _ _; refine SW.st (st_indexN rfl rfl (by assumption) (by omega)) rfl ?_) | (show SW _ _ _ _ (⟨_, Op.load _ _, _, _, _, none⟩ :: _) _ _; first | refine SW.st (st_load rfl (hb3.cell rfl)) rfl ?_ | refine SW.st (st_loads rfl rfl ((hZ.row.sl.all k0))) rfl ?_))
    refine SW.call rfl rfl (BackOf_ans u1 s.2 b.At b.Order _ hZ.z1.rd p1 p2 ⟨by omega, by omega⟩ ⟨by omega, by omega⟩) fun v w4 hXX hv => ?_
    obtain ⟨u', rfl, hs'⟩ := hv
    replace hs' := hs'.low (Nat.le_trans hlo hw.size)
    (replace hw := Ext.trans hw hXX; replace hb3 := hb3.ext hXX; replace hb6 := hb6.ext hXX; replace hZ := hZ.ext hXX)
    repeat' (refine SW.pure rfl rfl ?_)
    refine SW.alloc rfl fun b8 w1 hw1 hb8b hb8 => ?_
    skip
    refine SW.storeAgg hb8 rfl rfl rfl rfl (one_z u') fun w2 hb8' hg => ?_
    have hXX := hw1.own hb8b hg
    have hb8w : w.heap.size ≤ b8 := Nat.le_trans hw.size hb8b
    replace hw := Ext.trans hw hXX
    replace hb3 := hb3.ext hXX
    replace hb6 := hb6.ext hXX
    replace hZ := hZ.ext hXX
    replace hs' := hs'.ext hXX
    replace hb8 := hb8'
    clear hb8' hw1 hg hXX
    repeat' (first | (show CW _ _ _ _ _ _; first | refine CW.seq ?_ | refine CW.region ?_) | (show Post _ _ _ _ _; refine Post.seq ?_) | refine SW.nil ?_ | refine SW.pure rfl rfl ?_ | (show SW _ _ _ _ (⟨_, Op.fieldAddr _ _ _, _, _, _, none⟩ :: _) _ _; refine SW.st (st_field rfl) rfl ?_) | (show SW _ _ _ _ (⟨_, Op.indexAddr _ _ _, _, _, _, none⟩ :: _) _ _; refine SW.st (st_indexN rfl rfl (by assumption) (by omega)) rfl ?_) | (show SW _ _ _ _ (⟨_, Op.load _ _, _, _, _, none⟩ :: _) _ _; first | refine SW.st (st_load rfl (hb3.cell rfl)) rfl ?_ | refine SW.st (st_loads rfl rfl ((fun _ _ => hb8.cell))) rfl ?_))
    refine SW.storeElem (enc := encZ) 1 u' hZ.row rfl rfl k0 fun w5 hO hg => ?_
    rw [hZ.own] at hg
    have hG := hZ.gr hg
    have hgg := grown_trans (hw.gr (some g)) hg (.inl rfl)
    have hZ' : ZsOwn w5 lo g c u0 u' (backP s b) := by rw [eP]; exact ⟨hO, hZ.z0.grT hG rfl, hs'.grT hG rfl, hZ.glo, hZ.pos⟩
    clear hZ hs' hb8 cz hO
    (replace hb3 := hb3.grT hG rfl; replace hb6 := hb6.grT hG rfl)
    have hw3 := Ext.refl w5
    clear hw
    have hw := hw3
    repeat' (first | (show CW _ _ _ _ _ _; first | refine CW.seq ?_ | refine CW.region ?_) | (show Post _ _ _ _ _; refine Post.seq ?_) | refine SW.nil ?_ | (show SW _ _ _ _ (⟨_, Op.load _ _, _, _, _, none⟩ :: _) _ _; refine SW.st (st_loads rfl rfl ((fun _ _ => hb3.cell))) rfl ?_))
    refine SW.storeAgg hb6 rfl rfl rfl rfl (one_h ⟨⟨some ⟨g, 0, none⟩, 2, c⟩, m, cp, li, lv⟩) fun w6 hR2 hg => ?_
    have hG := hb6.gr hg
    replace hgg := grown_trans hgg hg (.inr fun i e => by cases e; exact hb6w)
    repeat' (first | (show CW _ _ _ _ _ _; refine CW.ret ?_) | (show Post _ _ _ _ _; refine Post.seq ?_) | refine SW.nil ?_)
    exact Post.ret1c rfl rfl hR2 rfl ⟨_, rfl, rfl, hgg, u0, u', hZ'.grT hG rfl⟩
end Go.Proofs.Ytfdmgflboibdoaa
