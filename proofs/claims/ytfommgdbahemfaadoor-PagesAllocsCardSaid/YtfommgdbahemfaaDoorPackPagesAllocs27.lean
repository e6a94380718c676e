/-
  Texts of the claim PagesAllocs, part 27: what its theorem leans on.
-/
import Derived.Test.YtfommgdbahemfaaDoorPackPagesAllocs23
import Derived.Test.YtfommgdbahemfaaDoorPackPagesAllocs24
import Derived.Test.YtfommgdbahemfaaDoorPackPagesAllocs25
import Derived.Test.YtfommgdbahemfaaDoorPackPagesAllocs26
import Derived.Test.YtfommgdbahemfaaDoorPackPagesAllocs13
set_option linter.unusedVariables false
set_option linter.unusedSimpArgs false
namespace Go.Proofs.YtfommgdbahemfaaDoor
open Go.RowKit
inductive RoundR (h : Heap) (cpu o t f : Int) (z0 z1 : Zone) : Nat → Int → Zone × Zone → List PList → Prop
 | start : RoundR h cpu o t f z0 z1 0 (-1) (z0, z1) h.Lists
 | none1 (ha : AttR (minsOf h 0) (minsOf h 1) cpu o t f (z0, z1) h.Lists none) : RoundR h cpu o t f z0 z1 1 (-1) (z0, z1) h.Lists
 | ok1 {r : (Zone × Zone) × List PList × Int} (ha : AttR (minsOf h 0) (minsOf h 1) cpu o t f (z0, z1) h.Lists (some r)) : RoundR h cpu o t f z0 z1 1 r.2.2 r.1 r.2.1
 | none2 (ha : AttR (minsOf h 0) (minsOf h 1) cpu o t f (z0, z1) h.Lists none) (h2 : AttR (minsOf h 0) (minsOf h 1) cpu o t f (backAll (z0, z1) (pagesB h.Lists)) [] none) : RoundR h cpu o t f z0 z1 2 (-1) (backAll (z0, z1) (pagesB h.Lists)) []
 | ok2 {r : (Zone × Zone) × List PList × Int} (ha : AttR (minsOf h 0) (minsOf h 1) cpu o t f (z0, z1) h.Lists none) (h2 : AttR (minsOf h 0) (minsOf h 1) cpu o t f (backAll (z0, z1) (pagesB h.Lists)) [] (some r)) : RoundR h cpu o t f z0 z1 2 r.2.2 r.1 r.2.1
structure RoundS (h : Heap) (cpu o t f : Int) (z0 z1 : Zone) (j : Nat) (s : Zone × Zone) (L : List PList) : Prop where
 vs : VS s
 sorted : LsS L
 pages : ∀ l ∈ L, 1 ≤ l.Pages.length ∧ l.Pages.length ≤ 8
 count : L.length ≤ 256
 pos : ∀ r, AttR (minsOf h 0) (minsOf h 1) cpu o t f s L (some r) → 0 ≤ r.2.2
 next : ∀ q, AttR (minsOf h 0) (minsOf h 1) cpu o t f s L q → RoundR h cpu o t f z0 z1 (j + 1) (tqV q) (trS s q) (trL L q)
theorem round_one {h : Heap} {cpu o t f : Int} {z0 z1 : Zone} (F : FHeap h z0 z1) : RoundS h cpu o t f z0 z1 0 (z0, z1) h.Lists :=
 ⟨F.d.start.vs, F.sorted, F.lists, F.count, fun r hr => by obtain ⟨i, e, _⟩ := free_once F (hr.found F.d.start.vs).2; omega, fun q hq => by cases q with
  | none => exact .none1 hq
  | some r => exact .ok1 hq⟩
theorem round_two {h : Heap} {cpu o t f : Int} {z0 z1 : Zone} (F : FHeap h z0 z1) (ha : AttR (minsOf h 0) (minsOf h 1) cpu o t f (z0, z1) h.Lists none) : RoundS h cpu o t f z0 z1 1 (backAll (z0, z1) (pagesB h.Lists)) [] :=
 ⟨(drained_inv F.d).vs, List.Pairwise.nil, fun l hl => by simp at hl, by simp, fun r hr => by obtain ⟨i, e, _⟩ := free_twice F (hr.found (drained_inv F.d).vs).2; omega, fun q hq => by cases q with
  | none => exact .none2 ha hq
  | some r => exact .ok2 ha hq⟩
theorem RoundR.done {h : Heap} {cpu o f : Int} {z0 z1 : Zone} (hq : heapB h = true) (hc : (0 ≤ cpu ∧ cpu < h.Cpus) ∧ 0 ≤ o ∧ o ≤ 4) (ht : 0 ≤ typeF f) (F : FHeap h z0 z1) {j : Nat} {a : Int} {s : Zone × Zone} {L : List PList} (R : RoundR h cpu o (typeF f) f z0 z1 j a s L) (hj : ¬ (j < 2 ∧ a < 0)) :
  (a = -1 ∧ AllocR h cpu o f (.zero, 0, 6)) ∨ ((0 ≤ a ∧ a < 256) ∧ (∀ b ∈ h.Live, b.At ≠ a) ∧ AllocR h cpu o f (heapOf h s L (liveWith h a o (typeF f)), a, 0)) := by
 cases R with
 | start => omega
 | none1 => omega
 | ok1 ha =>
  obtain ⟨i, e, hi, hcov⟩ := free_once F (ha.found F.d.start.vs).2
  exact .inr ⟨by omega, F.live_ne e hcov, .once hq hc ht F.d.zones ha⟩
 | none2 ha h2 => exact .inl ⟨rfl, .room hq hc ht F.d.zones ha h2⟩
 | ok2 ha h2 =>
  obtain ⟨i, e, hi, hcov⟩ := free_twice F (h2.found (drained_inv F.d).vs).2
  exact .inr ⟨by omega, F.live_ne e hcov, .twice hq hc ht F.d.zones ha h2⟩
set_option maxHeartbeats 8000000 in
theorem HeapAlloc_ans (r : HRow) (h : Heap) (cpu o f : Int) (w : World) (hr : RdH w r h) (hs : h.small) (hzn : ∀ z ∈ h.Zones, big64 z) :
  Ans Tryd.prog 14 [.agg (encH r).toArray, .int .i64 cpu, .int .i64 o, .int .i64 f] w fun v w' => ∃ u, AllocR h cpu o f u ∧ AllocOut w.heap.size u v w' := by
 refine ans_of Tryd.func14 rfl Tryd.ntmps14 rfl ?_
 refine CW.seq (CW.region (SW.box rfl rfl fun b4 w1 hw hb4b hb4 => ?_))
 refine SW.alloc rfl fun b8 w2 hw2 hb8b hb8 => ?_
 have hb8w : w.heap.size ≤ b8 := Nat.le_trans hw.size hb8b
 replace hb8 : Blk w2 b8 35 (encH .zero) := hb8
 (replace hw := Ext.trans hw hw2; replace hb4 := hb4.ext hw2)
 have eC := hr.cpus
 obtain ⟨q, hq⟩ : ∃ q, heapB h = q := ⟨_, rfl⟩
 have c1 : ∀ w', Ext w w' → Ans Tryd.prog 48 [.agg (encH r).toArray] w' fun v _ => v = .bool q := fun w' hx => by
  have := HMay_ans r h w' (hr.ext hx) hs hzn
  rwa [hq] at this
 cases q
 ·repeat' (first | (show CW _ _ _ _ _ _; first | refine CW.seq ?_ | refine CW.region ?_ | refine CW.condt rfl ?_) | (show Post _ _ _ _ _; refine Post.seq ?_) | refine SW.nil ?_ | refine SW.pure rfl rfl ?_ | (show SW _ _ _ _ (⟨_, Op.build _ _, _, _, _, none⟩ :: _) _ _; refine SW.st (st_build rfl rfl) rfl ?_) | (show SW _ _ _ _ (⟨_, Op.load _ _, _, _, _, none⟩ :: _) _ _; refine SW.st (st_loads rfl rfl ((fun _ _ => hb4.cell))) rfl ?_) | (show SW _ _ _ _ (⟨_, Op.call ⟨.value (.func _), _, _⟩, _, _, _, none⟩ :: _) _ _; (refine SW.call rfl rfl (c1 _ hw) ?_; intro v w1 hw1 hv; subst hv; replace hw := Ext.trans hw hw1; replace hb4 := hb4.ext hw1; replace hb8 := hb8.ext hw1; clear hw1)))
  refine SW.storeAgg hb8 rfl rfl rfl rfl (one_h .zero) fun w5 hR2 hg => ?_
  replace hw := hw.own hb8w hg
  repeat' (first | (show CW _ _ _ _ _ _; refine CW.ret ?_) | (show Post _ _ _ _ _; first | refine Post.seq ?_ | refine Post.seq_ret ?_) | refine SW.nil ?_ | refine SW.pure rfl rfl ?_)
  exact Post.ret3c rfl rfl rfl rfl hR2 rfl ⟨_, rfl, hw, _, .bad hq, AllocOut.zero 8 _ _⟩
 ·have hm := heapB_iff.1 hq
  obtain ⟨z0, z1, F⟩ := fheap_of hm
  have hcp := hm.cpus
  by_cases hc : (0 ≤ cpu ∧ cpu < h.Cpus) ∧ 0 ≤ o ∧ o ≤ 4
  ·obtain ⟨t, etf⟩ : ∃ t, typeF f = t := ⟨_, rfl⟩
   have c2 : ∀ w', Ans Tryd.prog 49 [.int .i64 f] w' fun v _ => v = .int .i64 t := fun w' => by
    have := typeAsked_ans f w'
    rwa [etf] at this
   by_cases ht : 0 ≤ t
   ·have ht0 : 0 ≤ typeF f := by rw [etf]; exact ht
    obtain ⟨hf, hty⟩ := typeF_ok ht0
    repeat' (first | (show CW _ _ _ _ _ _; first | refine CW.seq ?_ | refine CW.region ?_ | refine CW.condd_f rfl (by omega) ?_ | refine CW.condn_f rfl (by omega) ?_ | refine CW.condf rfl ?_ | refine CW.skip ?_) | (show Post _ _ _ _ _; refine Post.seq ?_) | refine SW.nil ?_ | (show SW _ _ _ _ (⟨_, _, _, _, _, some _⟩ :: _) _ _; first | refine SW.want_f rfl rfl (by with_reducible rfl) ?_ | refine SW.splitn_f rfl rfl rfl (by omega) ?_) | refine SW.pure rfl rfl ?_ | (show SW _ _ _ _ (⟨_, Op.fieldAddr _ _ _, _, _, _, none⟩ :: _) _ _; refine SW.st (st_field rfl) rfl ?_) | (show SW _ _ _ _ (⟨_, Op.binOp _ _ _ _ _, _, _, _, none⟩ :: _) _ _; refine SW.st (st_sub rfl rfl (by omega) (by omega)) rfl ?_) | (show SW _ _ _ _ (⟨_, Op.load _ _, _, _, _, none⟩ :: _) _ _; first | refine SW.st (st_loads rfl rfl ((fun _ _ => hb4.cell))) rfl ?_ | refine SW.st (st_load rfl (hb4.cell (i := 2) (v := .int .i64 r.Cpus) rfl)) rfl ?_) | (show SW _ _ _ _ (⟨_, Op.call ⟨.value (.func _), _, _⟩, _, _, _, none⟩ :: _) _ _; first | (refine SW.call rfl rfl (c1 _ hw) ?_; intro v w1 hw1 hv; subst hv; replace hw := Ext.trans hw hw1; replace hb4 := hb4.ext hw1; replace hb8 := hb8.ext hw1; clear hw1) | (refine SW.call rfl rfl (c2 _) ?_; intro v w1 hw1 hv; subst hv; replace hw := Ext.trans hw hw1; replace hb4 := hb4.ext hw1; replace hb8 := hb8.ext hw1; clear hw1) | (refine SW.call rfl rfl (In_ans _ _ _ _) ?_; intro v w1 hw1 hv; subst hv; replace hw := Ext.trans hw hw1; replace hb4 := hb4.ext hw1; replace hb8 := hb8.ext hw1; clear hw1)))
    all_goals first | (exfalso; omega) | skip
    refine SW.call rfl rfl (HeapCopy_ans r h _ (hr.ext hw) hs) fun v w4 hw4 hv => ?_
    obtain ⟨s, rfl, hOw⟩ := hv
    replace hOw := hOw.low hw.size
    (replace hw := Ext.trans hw hw4; replace hb4 := hb4.ext hw4; replace hb8 := hb8.ext hw4)
    clear c1 c2
    obtain ⟨g, c, u0, u1, ls, eZ, hZ, hR⟩ := hOw.split F.d.zones
    have ecp := hOw.cpus
    clear hOw
    obtain ⟨sz, m, cp, li, lv⟩ := s
    simp only at eZ hR ecp
    subst eZ
    skip
    have hb8lt := hb8.lt
    refine SW.alloc rfl fun b12 w1 hw1 hb12b hb12 => ?_
    skip
    refine SW.storeAgg hb12 rfl rfl rfl rfl (one_h ⟨⟨some ⟨g, 0, none⟩, 2, c⟩, m, cp, li, lv⟩) fun w2 hb12' hg => ?_
    have hXX := hw1.own hb12b hg
    have hb12w : w.heap.size ≤ b12 := Nat.le_trans hw.size hb12b
    replace hw := Ext.trans hw hXX
    replace hb4 := hb4.ext hXX
    replace hb8 := hb8.ext hXX
    replace hZ := hZ.ext hXX
    replace hR := hR.ext hXX
    replace hb12 := hb12'
    clear hb12' hw1 hg hXX
    have hne812 : b8 ≠ b12 := by omega
    have Q : RQ w w2 ⟨b12, g, c, m, lv, cp, h.Mins, h.Live⟩ ⟨u0, u1, li, ls⟩ (z0, z1) h.Lists := ⟨hZ, hR.mins, hR.live, hR.lists, hw⟩
    obtain ⟨k, hk⟩ : ∃ k : HK, k = ⟨b12, g, c, m, lv, cp, h.Mins, h.Live⟩ := ⟨_, rfl⟩
    obtain ⟨p0, hp0⟩ : ∃ p : HP, p = ⟨u0, u1, li, ls⟩ := ⟨_, rfl⟩
    have hb12' : Blk w2 b12 35 (encH (k.h p0)) := by rw [hk, hp0]; exact hb12
    rw [← hk, ← hp0] at Q
    have ekV : k.V = h.Live := by rw [hk]
    have ekM : k.M = h.Mins := by rw [hk]
    have ekc : k.cp = h.Cpus := by rw [hk]; exact ecp
    clear hb12 hb4 hZ hR hk hp0 ecp
    have hMn : MinOk k.M (minsOf h 0) (minsOf h 1) := by rw [ekM]; exact minOk_of hm
    have htm : f.tmod 2 = f % 2 := Int.tmod_eq_emod_of_nonneg (by omega)
    have hll := live_len F
    repeat' (first | (show CW _ _ _ _ _ _; first | refine CW.seq ?_ | refine CW.region ?_ | refine CW.block ?_) | (show Post _ _ _ _ _; refine Post.seq ?_) | refine SW.nil ?_ | refine SW.pure rfl rfl ?_)
    refine CW.loop (fun v : Nat × Int × HP × (Zone × Zone) × List PList => [(1, .int .i64 cpu), (2, .int .i64 o), (3, .int .i64 f), (8, .pointer (some ⟨b8, 0, none⟩)), (11, .int .i64 t), (12, .pointer (some ⟨b12, 0, none⟩)), (13, .int .i64 v.2.1), (14, .int .i64 (v.1 : Int))])
     (fun v w' => v.1 ≤ 2 ∧ RoundR h cpu o t f z0 z1 v.1 v.2.1 v.2.2.2.1 v.2.2.2.2 ∧ RQ w w' k v.2.2.1 v.2.2.2.1 v.2.2.2.2 ∧ Blk w' b8 35 (encH .zero) ∧ Blk w' b12 35 (encH (k.h v.2.2.1))) (fun v => 2 - v.1) (0, -1, p0, (z0, z1), h.Lists)
     ⟨rfl, rfl, rfl, rfl, rfl, rfl, rfl, rfl, trivial⟩ ⟨by simp only; omega, .start, Q, hb8, hb12'⟩ ?_
    clear hw Q hb8 hb12'
    rintro ⟨j, a, p1, s1, L1⟩ w' ⟨hj, hRd, Q, hb8, hb12⟩
    simp only at hj hRd Q hb12 ⊢
    have hw := Ext.refl w'
    by_cases hgo : j < 2 ∧ a < 0
    ·have hcase : (j = 0 ∧ s1 = (z0, z1) ∧ L1 = h.Lists) ∨ (j = 1 ∧ s1 = (z0, z1) ∧ L1 = h.Lists ∧ AttR (minsOf h 0) (minsOf h 1) cpu o t f (z0, z1) h.Lists none) := by
      cases hRd with
      | start => exact .inl ⟨rfl, rfl, rfl⟩
      | none1 ha => exact .inr ⟨rfl, rfl, rfl, ha⟩
      | ok1 ha => have := (round_one F).pos _ ha; omega
      | none2 => omega
      | ok2 => omega
     clear hRd
     have hgj := hgo.1
     have hga := hgo.2
     rcases hcase with ⟨hj0, rfl, rfl⟩ | ⟨hj1, rfl, rfl, ha1⟩
     focus
      have RS : RoundS h cpu o t f z0 z1 j (z0, z1) h.Lists := by rw [hj0]; exact round_one F
      obtain ⟨s1, hs1⟩ : ∃ s1, (z0, z1) = s1 := ⟨_, rfl⟩
      obtain ⟨L1, hL1⟩ : ∃ L1, h.Lists = L1 := ⟨_, rfl⟩
      rw [hs1, hL1] at Q RS
      have hjj : (j : Int) ≠ 1 := by omega
      clear hs1 hL1 hj0
     rotate_left
     focus
      have RS : RoundS h cpu o t f z0 z1 j (backAll (z0, z1) (pagesB h.Lists)) [] := by rw [hj1]; exact round_two F ha1
      have hg8 : b8 ≠ k.g := fun e => Q.zs.row.ne_blk hb8 rfl (by rw [Q.zs.own, e])
      have hg12 : b12 ≠ k.g := fun e => Q.zs.row.ne_blk hb12 rfl (by rw [Q.zs.own, e])
      repeat' (first | (show CW _ _ _ _ _ _; first | refine CW.seq ?_ | refine CW.region ?_ | refine CW.block ?_ | refine CW.condd_t rfl (by omega) ?_ | refine CW.skip ?_) | (show Post _ _ _ _ _; refine Post.seq ?_) | refine SW.nil ?_ | (show SW _ _ _ _ (⟨_, _, _, _, _, some _⟩ :: _) _ _; first | refine SW.want_t rfl rfl (by with_reducible rfl) ?_ | refine SW.splitd_t rfl rfl rfl (by omega) ?_) | refine SW.pure rfl rfl ?_ | (show SW _ _ _ _ (⟨_, Op.load _ _, _, _, _, none⟩ :: _) _ _; refine SW.st (st_loads rfl rfl ((fun _ _ => hb12.cell))) rfl ?_))
      refine SW.callX rfl rfl (emptied_ans h z0 z1 F.d hs k.m k.cp p1.li k.lv p1.ls p1.u0 p1.u1 k.g k.c w _ Q.base Q.zs ⟨by rw [← ekM]; exact Q.mins, by rw [← ekV]; exact Q.live, Q.ls⟩) fun v w6 hv => ?_
      obtain ⟨rfl, hx6, hE, hR', u2, u3, hZ'⟩ := hv
      replace hb8 := hE.blk hb8 hg8 hg8
      replace hb12 := hE.blk hb12 hg12 hg12
      have Q2 : RQ w w6 k ⟨u2, u3, .nil, []⟩ (backAll (z0, z1) (pagesB h.Lists)) [] := ⟨hZ', by rw [ekM]; exact hR'.mins, by rw [ekV]; exact hR'.live, OwnLs.nil _ _, hx6⟩
      clear Q hw hR' hZ' hE
      have hw := Ext.refl w6
      skip
      refine SW.storeAgg hb12 rfl rfl rfl rfl (one_h (k.h ⟨u2, u3, .nil, []⟩)) fun w7 hb12' hg => ?_
      have hG := hb12.gr hg
      have Q := Q2.own hg hb12w hG rfl
      replace hb8 := hb8.grown hg (by simpa using hne812)
      replace hb12 : Blk w7 b12 35 (encH (k.h ⟨u2, u3, .nil, []⟩)) := hb12'
      clear hb12' hg hG hw Q2
      have hw := Ext.refl w7
      obtain ⟨p1, hp1⟩ : ∃ p1 : HP, (⟨u2, u3, .nil, []⟩ : HP) = p1 := ⟨_, rfl⟩
      rw [hp1] at Q hb12
      obtain ⟨s1, hs1⟩ : ∃ s1, backAll (z0, z1) (pagesB h.Lists) = s1 := ⟨_, rfl⟩
      obtain ⟨L1, hL1⟩ : ∃ L1 : List PList, [] = L1 := ⟨_, rfl⟩
      rw [hs1, hL1] at Q RS
      have hjj : (j : Int) = 1 := by omega
      clear hs1 hL1 hj1 ha1 hp1
     all_goals
      obtain ⟨hv1, hs1, hpg1, hcnt1, hpos, hnext⟩ := RS
      have hg8 : b8 ≠ k.g := fun e => Q.zs.row.ne_blk hb8 rfl (by rw [Q.zs.own, e])
      have hg12 : b12 ≠ k.g := fun e => Q.zs.row.ne_blk hb12 rfl (by rw [Q.zs.own, e])
      by_cases hf2 : f % 2 = 0
      ·repeat' (first | (show CW _ _ _ _ _ _; first | refine CW.seq ?_ | refine CW.region ?_ | refine CW.block ?_ | refine CW.condd_t rfl (by omega) ?_ | refine CW.condd_f rfl (by omega) ?_ | refine CW.skip ?_) | (show Post _ _ _ _ _; refine Post.seq ?_) | refine SW.nil ?_ | (show SW _ _ _ _ (⟨_, _, _, _, _, some _⟩ :: _) _ _; first | refine SW.want_t rfl rfl (by with_reducible rfl) ?_ | refine SW.splitd_t rfl rfl rfl (by omega) ?_) | refine SW.pure rfl rfl ?_ | (show SW _ _ _ _ (⟨_, Op.binOp _ _ _ _ _, _, _, _, none⟩ :: _) _ _; refine SW.st (st_rem rfl rfl (by omega)) rfl ?_) | (show SW _ _ _ _ (⟨_, Op.load _ _, _, _, _, none⟩ :: _) _ _; refine SW.st (st_loads rfl rfl ((fun _ _ => hb12.cell))) rfl ?_))
       refine SW.callX rfl rfl (tried_ans k p1 s1 L1 _ _ cpu 1 o t f w _ Q hMn hv1 hs1 hpg1 hcnt1 (by decide) hc.2 hf) fun v w6 hv6 => ?_
       obtain ⟨q1, hA1, p2, rfl, Q2, hE2⟩ := hv6
       replace hb8 := hE2.blk hb8 hg8 hg8
       replace hb12 := hE2.blk hb12 hg12 hg12
       clear hw
       have hw := Ext.refl w6
       repeat' (refine SW.pure rfl rfl ?_)
       refine SW.storeAgg hb12 rfl rfl rfl rfl (one_h (k.h p2)) fun w7 hb12' hg => ?_
       have hG := hb12.gr hg
       replace Q2 := Q2.own hg hb12w hG rfl
       replace hb8 := hb8.grown hg (by simpa using hne812)
       replace hb12 := hb12'
       clear hb12' hg hG hw
       have hw := Ext.refl w7
       cases q1 with
       | some r1 =>
        have hAtt : AttR (minsOf h 0) (minsOf h 1) cpu o t f s1 L1 (some r1) := .high hf2 hA1
        have hp := hpos _ hAtt
        have htq : tqV (some r1) = r1.2.2 := rfl
        simp only [htq]
        repeat' (first | (show CW _ _ _ _ _ _; first | refine CW.seq ?_ | refine CW.region ?_ | refine CW.condd_f rfl (by omega) ?_ | refine CW.skip ?_) | (show Post _ _ _ _ _; first | refine Post.seq ?_ | refine Post.blk ?_) | refine SW.nil ?_ | refine SW.pure rfl rfl ?_ | (show SW _ _ _ _ (⟨_, Op.binOp _ _ _ _ _, _, _, _, none⟩ :: _) _ _; refine SW.st (st_add rfl rfl (by omega) (by omega)) rfl ?_))
        all_goals first | (exfalso; omega) | skip
        exact Post.again (j + 1, tqV (some r1), p2, trS s1 (some r1), trL L1 (some r1)) ⟨rfl, rfl, rfl, rfl, rfl, rfl, rfl, rfl, trivial⟩ (by simp only; omega) ⟨by simp only; omega, hnext _ hAtt, Q2, hb8, hb12⟩
       | none =>
        have hA0 := hA1
        clear hA1
        simp only [trS, trL] at Q2
        have htq : tqV none = -1 := rfl
        simp only [htq]
        repeat' (first | (show CW _ _ _ _ _ _; first | refine CW.seq ?_ | refine CW.region ?_ | refine CW.condd_t rfl (by omega) ?_) | (show Post _ _ _ _ _; refine Post.seq ?_) | refine SW.nil ?_ | refine SW.pure rfl rfl ?_ | (show SW _ _ _ _ (⟨_, Op.load _ _, _, _, _, none⟩ :: _) _ _; refine SW.st (st_loads rfl rfl ((fun _ _ => hb12.cell))) rfl ?_))
        refine SW.callX rfl rfl (tried_ans k p2 s1 L1 _ _ cpu 0 o t f w _ Q2 hMn hv1 hs1 hpg1 hcnt1 (by decide) hc.2 hf) fun v w6 hv6 => ?_
        obtain ⟨q1, hA1, p3, rfl, Q3, hE2⟩ := hv6
        replace hb8 := hE2.blk hb8 hg8 hg8
        replace hb12 := hE2.blk hb12 hg12 hg12
        clear hw
        have hw := Ext.refl w6
        repeat' (refine SW.pure rfl rfl ?_)
        refine SW.storeAgg hb12 rfl rfl rfl rfl (one_h (k.h p3)) fun w7 hb12' hg => ?_
        have hG := hb12.gr hg
        replace Q3 := Q3.own hg hb12w hG rfl
        replace hb8 := hb8.grown hg (by simpa using hne812)
        replace hb12 := hb12'
        clear hb12' hg hG hw
        have hw := Ext.refl w7
        have hAtt : AttR (minsOf h 0) (minsOf h 1) cpu o t f s1 L1 q1 := .low (fun _ => hA0) hA1
        repeat' (first | (show CW _ _ _ _ _ _; refine CW.region ?_) | (show Post _ _ _ _ _; first | refine Post.seq ?_ | refine Post.blk ?_) | refine SW.nil ?_ | refine SW.pure rfl rfl ?_ | (show SW _ _ _ _ (⟨_, Op.binOp _ _ _ _ _, _, _, _, none⟩ :: _) _ _; refine SW.st (st_add rfl rfl (by omega) (by omega)) rfl ?_))
        exact Post.again (j + 1, tqV q1, p3, trS s1 q1, trL L1 q1) ⟨rfl, rfl, rfl, rfl, rfl, rfl, rfl, rfl, trivial⟩ (by simp only; omega) ⟨by simp only; omega, hnext _ hAtt, Q3, hb8, hb12⟩
      ·repeat' (first | (show CW _ _ _ _ _ _; first | refine CW.seq ?_ | refine CW.region ?_ | refine CW.block ?_ | refine CW.condd_t rfl (by omega) ?_ | refine CW.condd_f rfl (by omega) ?_ | refine CW.skip ?_) | (show Post _ _ _ _ _; refine Post.seq ?_) | refine SW.nil ?_ | (show SW _ _ _ _ (⟨_, _, _, _, _, some _⟩ :: _) _ _; first | refine SW.want_t rfl rfl (by with_reducible rfl) ?_ | refine SW.splitd_t rfl rfl rfl (by omega) ?_) | refine SW.pure rfl rfl ?_ | (show SW _ _ _ _ (⟨_, Op.binOp _ _ _ _ _, _, _, _, none⟩ :: _) _ _; refine SW.st (st_rem rfl rfl (by omega)) rfl ?_) | (show SW _ _ _ _ (⟨_, Op.load _ _, _, _, _, none⟩ :: _) _ _; refine SW.st (st_loads rfl rfl ((fun _ _ => hb12.cell))) rfl ?_))
       refine SW.callX rfl rfl (tried_ans k p1 s1 L1 _ _ cpu 0 o t f w _ Q hMn hv1 hs1 hpg1 hcnt1 (by decide) hc.2 hf) fun v w6 hv6 => ?_
       obtain ⟨q1, hA1, p2, rfl, Q2, hE2⟩ := hv6
       replace hb8 := hE2.blk hb8 hg8 hg8
       replace hb12 := hE2.blk hb12 hg12 hg12
       clear hw
       have hw := Ext.refl w6
       repeat' (refine SW.pure rfl rfl ?_)
       refine SW.storeAgg hb12 rfl rfl rfl rfl (one_h (k.h p2)) fun w7 hb12' hg => ?_
       have hG := hb12.gr hg
       replace Q2 := Q2.own hg hb12w hG rfl
       replace hb8 := hb8.grown hg (by simpa using hne812)
       replace hb12 := hb12'
       clear hb12' hg hG hw
       have hw := Ext.refl w7
       have hAtt : AttR (minsOf h 0) (minsOf h 1) cpu o t f s1 L1 q1 := .low (fun e => absurd e hf2) hA1
       repeat' (first | (show CW _ _ _ _ _ _; refine CW.region ?_) | (show Post _ _ _ _ _; first | refine Post.seq ?_ | refine Post.blk ?_) | refine SW.nil ?_ | refine SW.pure rfl rfl ?_ | (show SW _ _ _ _ (⟨_, Op.binOp _ _ _ _ _, _, _, _, none⟩ :: _) _ _; refine SW.st (st_add rfl rfl (by omega) (by omega)) rfl ?_))
       exact Post.again (j + 1, tqV q1, p2, trS s1 q1, trL L1 q1) ⟨rfl, rfl, rfl, rfl, rfl, rfl, rfl, rfl, trivial⟩ (by simp only; omega) ⟨by simp only; omega, hnext _ hAtt, Q2, hb8, hb12⟩
    ·have hD := RoundR.done hq hc ht0 F (by rw [etf]; exact hRd) hgo
     rw [etf] at hD
     rcases hD with ⟨ha, hAR⟩ | ⟨ha, hne, hAR⟩
     ·repeat' (first | (show CW _ _ _ _ _ _; first | refine CW.seq ?_ | refine CW.region ?_ | refine CW.condfr rfl (by with_reducible rfl) ?_ | refine CW.condd_t rfl (by omega) ?_ | refine CW.exit ?_) | (show Post _ _ _ _ _; first | refine Post.seq ?_ | refine Post.seq_exit ?_ | refine Post.hit ?_ | refine Post.again_exit ?_) | refine SW.nil ?_ | (show SW _ _ _ _ (⟨_, _, _, _, _, some _⟩ :: _) _ _; first | refine SW.skip_t rfl rfl (by with_reducible rfl) rfl ?_ | refine SW.splitd_f rfl rfl rfl (by omega) ?_) | refine SW.pure rfl rfl ?_ | (show SW _ _ _ _ (⟨_, Op.build _ _, _, _, _, none⟩ :: _) _ _; refine SW.st (st_build rfl rfl) rfl ?_))
      all_goals first | (exfalso; omega) | skip
      all_goals
       refine SW.storeAgg hb8 rfl rfl rfl rfl (one_h .zero) fun w5 hR2 hg => ?_
       replace hw := Q.base.own hb8w hg
       repeat' (first | (show CW _ _ _ _ _ _; refine CW.ret ?_) | (show Post _ _ _ _ _; first | refine Post.seq ?_ | refine Post.seq_ret ?_) | refine SW.nil ?_ | refine SW.pure rfl rfl ?_)
       exact Post.ret3c rfl rfl rfl rfl hR2 rfl ⟨_, rfl, hw, _, hAR, AllocOut.zero 6 _ _⟩
     ·have hVl := Q.live.len
      rw [ekV] at hVl
      have hV := Q.live
      rw [ekV] at hV
      have hZ := Q.zs
      have hM := Q.mins
      rw [ekM] at hM
      have hL := Q.ls
      have hbs := Q.base
      have elv : insAt h.Live (gtOf h.Live a) ⟨a, o, t⟩ = liveWith h a o t := by unfold liveWith; rw [gt_lb hne]
      rcases (show j < 2 ∨ ¬ j < 2 by omega) with hj2 | hj2
      all_goals
       repeat' (first | (show CW _ _ _ _ _ _; first | refine CW.seq ?_ | refine CW.region ?_ | refine CW.condfr rfl (by with_reducible rfl) ?_ | refine CW.condd_f rfl (by omega) ?_ | refine CW.skip ?_ | refine CW.exit ?_) | (show Post _ _ _ _ _; first | refine Post.seq ?_ | refine Post.seq_exit ?_ | refine Post.hit ?_ | refine Post.again_exit ?_) | refine SW.nil ?_ | (show SW _ _ _ _ (⟨_, _, _, _, _, some _⟩ :: _) _ _; first | refine SW.want_t rfl rfl (by with_reducible rfl) ?_ | refine SW.skip_t rfl rfl (by with_reducible rfl) rfl ?_ | refine SW.splitd_t rfl rfl rfl (by omega) ?_ | refine SW.splitd_f rfl rfl rfl (by omega) ?_) | refine SW.pure rfl rfl ?_ | (show SW _ _ _ _ (⟨_, Op.fieldAddr _ _ _, _, _, _, none⟩ :: _) _ _; refine SW.st (st_field rfl) rfl ?_) | (show SW _ _ _ _ (⟨_, Op.build _ _, _, _, _, none⟩ :: _) _ _; refine SW.st (st_build rfl rfl) rfl ?_) | (show SW _ _ _ _ (⟨_, Op.load _ _, _, _, _, none⟩ :: _) _ _; refine SW.st (st_load rfl (hb12.cell (i := 4) (v := .slice k.lv.A k.lv.n k.lv.c) rfl)) rfl ?_))
       refine SW.call rfl rfl (withBlock_ans k.lv.A k.lv.n k.lv.c h.Live ⟨a, o, t⟩ _ hV.sl (by omega)) fun v w9 hXX hv => ?_
       obtain ⟨B, c', rfl, hB⟩ := hv
       replace hB := hB.low hbs.size
       simp only [elv] at hB
       replace hbs := hbs.trans hXX
       (replace hw := Ext.trans hw hXX; replace hb8 := hb8.ext hXX; replace hb12 := hb12.ext hXX; replace hZ := hZ.ext hXX; replace hM := hM.ext hXX; replace hL := hL.ext hXX)
       repeat' ((show SW _ _ _ _ (⟨_, Op.fieldAddr _ _ _, _, _, _, none⟩ :: _) _ _; refine SW.st (st_field rfl) rfl ?_))
       refine SW.storeB (i := 4) hb12 rfl rfl rfl rfl fun w11 hb12' hg => ?_
       have hG := hb12.gr hg
       replace hbs := hbs.own hb12w hg
       replace hb8 := hb8.grown hg (by simpa using hne812)
       (replace hZ := hZ.grT hG rfl; replace hM := hM.grT hG rfl; replace hL := hL.grT hG rfl; replace hB := hB.grT hG rfl)
       clear hw
       have hw := Ext.refl w11
       replace hb12 : Blk w11 b12 35 (encH ⟨⟨some ⟨k.g, 0, none⟩, 2, k.c⟩, k.m, k.cp, p1.li, ⟨B, k.lv.n + 1, c'⟩⟩) := hb12'
       repeat' (first | (show CW _ _ _ _ _ _; first | refine CW.seq ?_ | refine CW.region ?_) | (show Post _ _ _ _ _; refine Post.seq ?_) | refine SW.nil ?_ | refine SW.pure rfl rfl ?_ | (show SW _ _ _ _ (⟨_, Op.load _ _, _, _, _, none⟩ :: _) _ _; refine SW.st (st_loads rfl rfl ((fun _ _ => hb12.cell))) rfl ?_))
       refine SW.storeAgg hb8 rfl rfl rfl rfl (one_h ⟨⟨some ⟨k.g, 0, none⟩, 2, k.c⟩, k.m, k.cp, p1.li, ⟨B, k.lv.n + 1, c'⟩⟩) fun w12 hR2 hg => ?_
       have hG := hb8.gr hg
       replace hbs := hbs.own hb8w hg
       (replace hZ := hZ.grT hG rfl; replace hM := hM.grT hG rfl; replace hL := hL.grT hG rfl; replace hB := hB.grT hG rfl)
       repeat' (first | (show CW _ _ _ _ _ _; refine CW.ret ?_) | (show Post _ _ _ _ _; refine Post.seq ?_) | refine SW.nil ?_ | refine SW.pure rfl rfl ?_)
       exact Post.ret3c rfl rfl rfl rfl hR2 rfl ⟨_, rfl, hbs, _, hAR, ⟨⟨some ⟨k.g, 0, none⟩, 2, k.c⟩, k.m, k.cp, p1.li, ⟨B, k.lv.n + 1, c'⟩⟩, rfl, ⟨ekc, hM, hB, ⟨[p1.u0, p1.u1], ⟨hZ.row, All2.two hZ.z0 hZ.z1⟩⟩, ⟨p1.ls, hL⟩⟩⟩
   ·repeat' (first | (show CW _ _ _ _ _ _; first | refine CW.seq ?_ | refine CW.region ?_ | refine CW.condd_t rfl (by omega) ?_ | refine CW.condn_f rfl (by omega) ?_ | refine CW.condf rfl ?_ | refine CW.skip ?_) | (show Post _ _ _ _ _; refine Post.seq ?_) | refine SW.nil ?_ | (show SW _ _ _ _ (⟨_, _, _, _, _, some _⟩ :: _) _ _; first | refine SW.want_f rfl rfl (by with_reducible rfl) ?_ | refine SW.splitn_f rfl rfl rfl (by omega) ?_) | refine SW.pure rfl rfl ?_ | (show SW _ _ _ _ (⟨_, Op.fieldAddr _ _ _, _, _, _, none⟩ :: _) _ _; refine SW.st (st_field rfl) rfl ?_) | (show SW _ _ _ _ (⟨_, Op.build _ _, _, _, _, none⟩ :: _) _ _; refine SW.st (st_build rfl rfl) rfl ?_) | (show SW _ _ _ _ (⟨_, Op.binOp _ _ _ _ _, _, _, _, none⟩ :: _) _ _; refine SW.st (st_sub rfl rfl (by omega) (by omega)) rfl ?_) | (show SW _ _ _ _ (⟨_, Op.load _ _, _, _, _, none⟩ :: _) _ _; first | refine SW.st (st_loads rfl rfl ((fun _ _ => hb4.cell))) rfl ?_ | refine SW.st (st_load rfl (hb4.cell (i := 2) (v := .int .i64 r.Cpus) rfl)) rfl ?_) | (show SW _ _ _ _ (⟨_, Op.call ⟨.value (.func _), _, _⟩, _, _, _, none⟩ :: _) _ _; first | (refine SW.call rfl rfl (c1 _ hw) ?_; intro v w1 hw1 hv; subst hv; replace hw := Ext.trans hw hw1; replace hb4 := hb4.ext hw1; replace hb8 := hb8.ext hw1; clear hw1) | (refine SW.call rfl rfl (c2 _) ?_; intro v w1 hw1 hv; subst hv; replace hw := Ext.trans hw hw1; replace hb4 := hb4.ext hw1; replace hb8 := hb8.ext hw1; clear hw1) | (refine SW.call rfl rfl (In_ans _ _ _ _) ?_; intro v w1 hw1 hv; subst hv; replace hw := Ext.trans hw hw1; replace hb4 := hb4.ext hw1; replace hb8 := hb8.ext hw1; clear hw1)))
    all_goals first | (exfalso; omega) | skip
    refine SW.storeAgg hb8 rfl rfl rfl rfl (one_h .zero) fun w5 hR2 hg => ?_
    replace hw := hw.own hb8w hg
    repeat' (first | (show CW _ _ _ _ _ _; refine CW.ret ?_) | (show Post _ _ _ _ _; first | refine Post.seq ?_ | refine Post.seq_ret ?_) | refine SW.nil ?_ | refine SW.pure rfl rfl ?_)
    exact Post.ret3c rfl rfl rfl rfl hR2 rfl ⟨_, rfl, hw, _, .form hq hc (by rw [etf]; omega), AllocOut.zero 3 _ _⟩
  ·repeat' (first | (show CW _ _ _ _ _ _; first | refine CW.seq ?_ | refine CW.region ?_ | refine CW.condtr rfl (by with_reducible rfl) ?_ | refine CW.condn_t rfl (by omega) ?_ | refine CW.condf rfl ?_ | refine CW.skip ?_) | (show Post _ _ _ _ _; refine Post.seq ?_) | refine SW.nil ?_ | (show SW _ _ _ _ (⟨_, _, _, _, _, some _⟩ :: _) _ _; first | refine SW.want_f rfl rfl (by with_reducible rfl) ?_ | refine SW.skip_f rfl rfl (by with_reducible rfl) rfl ?_ | refine SW.splitn rfl rfl rfl (fun h => ?_) (fun h => ?_)) | refine SW.pure rfl rfl ?_ | (show SW _ _ _ _ (⟨_, Op.fieldAddr _ _ _, _, _, _, none⟩ :: _) _ _; refine SW.st (st_field rfl) rfl ?_) | (show SW _ _ _ _ (⟨_, Op.build _ _, _, _, _, none⟩ :: _) _ _; refine SW.st (st_build rfl rfl) rfl ?_) | (show SW _ _ _ _ (⟨_, Op.binOp _ _ _ _ _, _, _, _, none⟩ :: _) _ _; refine SW.st (st_sub rfl rfl (by omega) (by omega)) rfl ?_) | (show SW _ _ _ _ (⟨_, Op.load _ _, _, _, _, none⟩ :: _) _ _; first | refine SW.st (st_loads rfl rfl ((fun _ _ => hb4.cell))) rfl ?_ | refine SW.st (st_load rfl (hb4.cell (i := 2) (v := .int .i64 r.Cpus) rfl)) rfl ?_) | (show SW _ _ _ _ (⟨_, Op.call ⟨.value (.func _), _, _⟩, _, _, _, none⟩ :: _) _ _; first | (refine SW.call rfl rfl (c1 _ hw) ?_; intro v w1 hw1 hv; subst hv; replace hw := Ext.trans hw hw1; replace hb4 := hb4.ext hw1; replace hb8 := hb8.ext hw1; clear hw1) | (refine SW.call rfl rfl (In_ans _ _ _ _) ?_; intro v w1 hw1 hv; subst hv; replace hw := Ext.trans hw hw1; replace hb4 := hb4.ext hw1; replace hb8 := hb8.ext hw1; clear hw1)))
   all_goals first | (exfalso; omega) | skip
   all_goals
    refine SW.storeAgg hb8 rfl rfl rfl rfl (one_h .zero) fun w5 hR2 hg => ?_
    replace hw := hw.own hb8w hg
    repeat' (first | (show CW _ _ _ _ _ _; refine CW.ret ?_) | (show Post _ _ _ _ _; first | refine Post.seq ?_ | refine Post.seq_ret ?_) | refine SW.nil ?_ | refine SW.pure rfl rfl ?_)
    exact Post.ret3c rfl rfl rfl rfl hR2 rfl ⟨_, rfl, hw, _, .range hq hc, AllocOut.zero 1 _ _⟩
end Go.Proofs.YtfommgdbahemfaaDoor
set_option linter.unusedVariables false
namespace Go.Proofs.YtfommgdbahemfaaDoor
open Go.RowKit
set_option maxHeartbeats 4000000 in
theorem sameHeap_ans (r s : HRow) (h : Heap) (w : World) (ha : RdH w r h) (hb : RdH w s h) (hs : h.small) :
  Ans Tryd.prog 15 [.agg (encH r).toArray, .agg (encH s).toArray] w fun v _ => v = .bool true := by
 refine ans_of Tryd.func15 rfl Tryd.ntmps15 rfl ?_
 refine CW.seq (CW.region (SW.box rfl rfl fun b2 w1 hw hb2b hb2 => ?_))
 refine SW.box rfl rfl fun b3 w2 hw2 hb3b hb3 => ?_
 (replace hw := Ext.trans hw hw2; replace hb2 := hb2.ext hw2)
 obtain ⟨zs, hz⟩ := ha.zones
 obtain ⟨ls, hl⟩ := ha.lists
 obtain ⟨zs', hz'⟩ := hb.zones
 obtain ⟨ls', hl'⟩ := hb.lists
 obtain ⟨z1, z2⟩ := hz.len
 obtain ⟨l1, l2⟩ := hl.len
 obtain ⟨z3, z4⟩ := hz'.len
 obtain ⟨l3, l4⟩ := hl'.len
 have s1 := hs.mins
 have s2 := hs.live
 have s3 := hs.zones
 have s4 := hs.lists
 have m1 := ha.mins.len
 have m2 := ha.live.len
 have e1 := ha.cpus
 have e2 := hb.cpus
 have cM : ∀ w', Ext w w' → Ans Tryd.prog 34 [.slice r.Mins.A r.Mins.n r.Mins.c, .slice s.Mins.A s.Mins.n s.Mins.c] w' fun v _ => v = .bool true := fun w' hx => by
  have := sameInts_ans _ _ _ _ r.Mins.c s.Mins.c _ _ w' (ha.mins.ext hx) (hb.mins.ext hx) (by omega)
  simpa using this
 have cL : ∀ w', Ext w w' → Ans Tryd.prog 33 [.slice r.Live.A r.Live.n r.Live.c, .slice s.Live.A s.Live.n s.Live.c] w' fun v _ => v = .bool true := fun w' hx => by
  have := sameBlocks_ans _ _ _ _ r.Live.c s.Live.c _ _ w' (ha.live.ext hx) (hb.live.ext hx) (by omega)
  simpa using this
 repeat' (first | (show CW _ _ _ _ _ _; first | refine CW.seq ?_ | refine CW.region ?_ | refine CW.block ?_ | refine CW.condf rfl ?_ | refine CW.skip ?_) | (show Post _ _ _ _ _; refine Post.seq ?_) | refine SW.nil ?_ | (show SW _ _ _ _ (⟨_, _, _, _, _, some _⟩ :: _) _ _; first | refine SW.want_f rfl rfl (by with_reducible rfl) ?_ | refine SW.splitn_f rfl rfl rfl (by omega) ?_ | refine SW.want rfl rfl ?_) | refine SW.pure rfl rfl ?_ | (show SW _ _ _ _ (⟨_, Op.fieldAddr _ _ _, _, _, _, none⟩ :: _) _ _; refine SW.st (st_field rfl) rfl ?_) | (show SW _ _ _ _ (⟨_, Op.call ⟨.builtin .len, _, _⟩, _, _, _, none⟩ :: _) _ _; refine SW.st (st_len rfl) rfl ?_) | (show SW _ _ _ _ (⟨_, Op.load _ _, _, _, _, none⟩ :: _) _ _; first | refine SW.st (st_load rfl (hb2.cell rfl)) rfl ?_ | refine SW.st (st_load rfl (hb3.cell rfl)) rfl ?_) | (show SW _ _ _ _ (⟨_, Op.call ⟨.value (.func _), _, _⟩, _, _, _, none⟩ :: _) _ _; first | (refine SW.call rfl rfl (cM _ hw) ?_; intro v w1 hw1 hv; subst hv; replace hw := Ext.trans hw hw1; replace hb2 := hb2.ext hw1; replace hb3 := hb3.ext hw1; clear hw1) | (refine SW.call rfl rfl (cL _ hw) ?_; intro v w1 hw1 hv; subst hv; replace hw := Ext.trans hw hw1; replace hb2 := hb2.ext hw1; replace hb3 := hb3.ext hw1; clear hw1)))
 all_goals first | (exfalso; omega) | skip
 refine CW.loop (fun k : Nat => [(2, .pointer (some ⟨b2, 0, none⟩)), (3, .pointer (some ⟨b3, 0, none⟩)), (5, .int .i64 (k : Int))]) (fun k w' => k ≤ r.Zones.n ∧ Ext w w' ∧ Blk w' b2 35 (encH r) ∧ Blk w' b3 35 (encH s)) (fun k => r.Zones.n - k) 0
  ⟨rfl, rfl, rfl, trivial⟩ ⟨by omega, hw, hb2, hb3⟩ ?_
 clear hw hb2 hb3
 rintro k w' ⟨hk, hw, hb2, hb3⟩
 have hA := hz.row.base
 have hB := hz'.row.base
 by_cases hkn : k < r.Zones.n
 ·have hkn' : k < s.Zones.n := by omega
  have hzk := hz.each.get k (by omega) (by omega)
  have hzk' := hz'.each.get k (by omega) (by omega)
  have q := hs.free _ (List.getElem_mem (show k < h.Zones.length by omega))
  have q1 := hzk.free.len
  have q2 := hzk.types.len
  have cZ : ∀ w', Ext w w' → Ans Tryd.prog 9 [.agg (encZ zs[k]).toArray, .agg (encZ zs'[k]).toArray] w' fun v _ => v = .bool true := fun w' hx => by
   have := sameZone_ans zs[k] zs'[k] _ _ w' (hzk.ext hx) (hzk'.ext hx) (by omega) (by omega)
   simpa using this
  repeat' (first | (show CW _ _ _ _ _ _; first | refine CW.seq ?_ | refine CW.region ?_ | refine CW.block ?_ | refine CW.condd_t rfl (by omega) ?_ | refine CW.condf rfl ?_ | refine CW.skip ?_ | (apply CW.quiet1 mixed; (· kernel_rfl); rotate_left; intro w1 hw1; replace hw := Ext.trans hw hw1; replace hb2 := hb2.ext hw1; replace hb3 := hb3.ext hw1; clear hw1; rotate_right)) | (show Post _ _ _ _ _; first | refine Post.seq ?_ | refine Post.blk ?_) | refine SW.nil ?_ | refine SW.pure rfl rfl ?_ | (show SW _ _ _ _ (⟨_, Op.fieldAddr _ _ _, _, _, _, none⟩ :: _) _ _; refine SW.st (st_field rfl) rfl ?_) | (show SW _ _ _ _ (⟨_, Op.binOp _ _ _ _ _, _, _, _, none⟩ :: _) _ _; refine SW.st (st_add rfl rfl (by omega) (by omega)) rfl ?_) | (show SW _ _ _ _ (⟨_, Op.indexAddr _ _ _, _, _, _, none⟩ :: _) _ _; refine SW.st (st_indexN rfl rfl (by assumption) (by omega)) rfl ?_) | (show SW _ _ _ _ (⟨_, Op.call ⟨.builtin .len, _, _⟩, _, _, _, none⟩ :: _) _ _; refine SW.st (st_len rfl) rfl ?_) | (show SW _ _ _ _ (⟨_, Op.load _ _, _, _, _, none⟩ :: _) _ _; first | refine SW.st (st_load rfl (hb2.cell rfl)) rfl ?_ | refine SW.st (st_load rfl (hb3.cell rfl)) rfl ?_ | refine SW.st (st_loadsx hw rfl rfl ((hz.row.all hkn))) rfl ?_ | refine SW.st (st_loadsx hw rfl rfl ((hz'.row.all hkn'))) rfl ?_) | (show SW _ _ _ _ (⟨_, Op.call ⟨.value (.func _), _, _⟩, _, _, _, none⟩ :: _) _ _; refine SW.qcall rfl rfl (fun w1 hw1 => (cZ _ (Ext.trans hw hw1))) ?_) | exact SW.qnil rfl)
  exact Post.again (k + 1) ⟨rfl, rfl, rfl, trivial⟩ (by omega) ⟨by omega, hw, hb2, hb3⟩
 ·repeat' (first | (show CW _ _ _ _ _ _; first | refine CW.seq ?_ | refine CW.region ?_ | refine CW.block ?_ | refine CW.condd_f rfl (by omega) ?_ | refine CW.exit ?_) | (show Post _ _ _ _ _; first | refine Post.seq ?_ | refine Post.seq_exit ?_ | refine Post.hit ?_ | refine Post.again_exit ?_) | refine SW.nil ?_ | refine SW.pure rfl rfl ?_ | (show SW _ _ _ _ (⟨_, Op.fieldAddr _ _ _, _, _, _, none⟩ :: _) _ _; refine SW.st (st_field rfl) rfl ?_) | (show SW _ _ _ _ (⟨_, Op.call ⟨.builtin .len, _, _⟩, _, _, _, none⟩ :: _) _ _; refine SW.st (st_len rfl) rfl ?_) | (show SW _ _ _ _ (⟨_, Op.load _ _, _, _, _, none⟩ :: _) _ _; refine SW.st (st_load rfl (hb2.cell rfl)) rfl ?_))
  clear hkn hk hA hB
  refine CW.loop (fun k : Nat => [(2, .pointer (some ⟨b2, 0, none⟩)), (3, .pointer (some ⟨b3, 0, none⟩)), (6, .int .i64 (k : Int))]) (fun k w' => k ≤ r.Lists.n ∧ Ext w w' ∧ Blk w' b2 35 (encH r) ∧ Blk w' b3 35 (encH s)) (fun k => r.Lists.n - k) 0
   ⟨rfl, rfl, rfl, trivial⟩ ⟨by omega, hw, hb2, hb3⟩ ?_
  clear hw hb2 hb3
  rintro k w' ⟨hk, hw, hb2, hb3⟩
  have hA := hl.row.base
  have hB := hl'.row.base
  by_cases hkn : k < r.Lists.n
  ·have hkn' : k < s.Lists.n := by omega
   have hlk := hl.each.get k (by omega) (by omega)
   have hlk' := hl'.each.get k (by omega) (by omega)
   have q := hs.pages _ (List.getElem_mem (show k < h.Lists.length by omega))
   have q1 := hlk.pages.len
   have g1 := hlk.cpu
   have g2 := hlk.zone
   have g3 := hlk.ty
   have g4 := hlk'.cpu
   have g5 := hlk'.zone
   have g6 := hlk'.ty
   have cP : ∀ w', Ext w w' → Ans Tryd.prog 34 [.slice ls[k].Pages.A ls[k].Pages.n ls[k].Pages.c, .slice ls'[k].Pages.A ls'[k].Pages.n ls'[k].Pages.c] w' fun v _ => v = .bool true := fun w' hx => by
    have := sameInts_ans _ _ _ _ ls[k].Pages.c ls'[k].Pages.c _ _ w' (hlk.pages.ext hx) (hlk'.pages.ext hx) (by omega)
    simpa using this
   repeat' (first | (show CW _ _ _ _ _ _; first | refine CW.seq ?_ | refine CW.region ?_ | refine CW.block ?_ | refine CW.condd_t rfl (by omega) ?_ | refine CW.skip ?_) | (show Post _ _ _ _ _; refine Post.seq ?_) | refine SW.nil ?_ | refine SW.pure rfl rfl ?_ | (show SW _ _ _ _ (⟨_, Op.fieldAddr _ _ _, _, _, _, none⟩ :: _) _ _; refine SW.st (st_field rfl) rfl ?_) | (show SW _ _ _ _ (⟨_, Op.indexAddr _ _ _, _, _, _, none⟩ :: _) _ _; refine SW.st (st_indexN rfl rfl (by assumption) (by omega)) rfl ?_) | (show SW _ _ _ _ (⟨_, Op.call ⟨.builtin .len, _, _⟩, _, _, _, none⟩ :: _) _ _; refine SW.st (st_len rfl) rfl ?_) | (show SW _ _ _ _ (⟨_, Op.load _ _, _, _, _, none⟩ :: _) _ _; first | refine SW.st (st_load rfl (hb2.cell rfl)) rfl ?_ | refine SW.st (st_loadsx hw rfl rfl ((hl.row.all hkn))) rfl ?_))
   refine SW.alloc rfl fun b7 w1 hw1 hb7b hb7 => ?_
   skip
   refine SW.storeAgg hb7 rfl rfl rfl rfl (one_l _) fun w2 hb7' hg => ?_
   have hXX := hw1.own hb7b hg
   have hb7w : w.heap.size ≤ b7 := Nat.le_trans hw.size hb7b
   replace hw := Ext.trans hw hXX
   replace hb2 := hb2.ext hXX
   replace hb3 := hb3.ext hXX
   replace hb7 := hb7'
   clear hb7' hw1 hg hXX
   repeat' (first | (show CW _ _ _ _ _ _; first | refine CW.seq ?_ | refine CW.region ?_) | (show Post _ _ _ _ _; refine Post.seq ?_) | refine SW.nil ?_ | refine SW.pure rfl rfl ?_ | (show SW _ _ _ _ (⟨_, Op.fieldAddr _ _ _, _, _, _, none⟩ :: _) _ _; refine SW.st (st_field rfl) rfl ?_) | (show SW _ _ _ _ (⟨_, Op.indexAddr _ _ _, _, _, _, none⟩ :: _) _ _; refine SW.st (st_indexN rfl rfl (by assumption) (by omega)) rfl ?_) | (show SW _ _ _ _ (⟨_, Op.load _ _, _, _, _, none⟩ :: _) _ _; first | refine SW.st (st_load rfl (hb3.cell rfl)) rfl ?_ | refine SW.st (st_loadsx hw rfl rfl ((hl'.row.all hkn'))) rfl ?_))
   refine SW.alloc rfl fun b8 w1 hw1 hb8b hb8 => ?_
   skip
   refine SW.storeAgg hb8 rfl rfl rfl rfl (one_l _) fun w2 hb8' hg => ?_
   have hXX := hw1.own hb8b hg
   have hb8w : w.heap.size ≤ b8 := Nat.le_trans hw.size hb8b
   replace hw := Ext.trans hw hXX
   replace hb2 := hb2.ext hXX
   replace hb3 := hb3.ext hXX
   replace hb7 := hb7.ext hXX
   replace hb8 := hb8'
   clear hb8' hw1 hg hXX
   repeat' (first | (show CW _ _ _ _ _ _; first | refine CW.seq ?_ | refine CW.region ?_ | refine CW.condf rfl ?_ | refine CW.skip ?_) | (show Post _ _ _ _ _; first | refine Post.seq ?_ | refine Post.blk ?_) | refine SW.nil ?_ | (show SW _ _ _ _ (⟨_, _, _, _, _, some _⟩ :: _) _ _; first | refine SW.want_f rfl rfl (by with_reducible rfl) ?_ | refine SW.splitn_f rfl rfl rfl (by omega) ?_) | refine SW.pure rfl rfl ?_ | (show SW _ _ _ _ (⟨_, Op.fieldAddr _ _ _, _, _, _, none⟩ :: _) _ _; refine SW.st (st_field rfl) rfl ?_) | (show SW _ _ _ _ (⟨_, Op.binOp _ _ _ _ _, _, _, _, none⟩ :: _) _ _; refine SW.st (st_add rfl rfl (by omega) (by omega)) rfl ?_) | (show SW _ _ _ _ (⟨_, Op.load _ _, _, _, _, none⟩ :: _) _ _; first | refine SW.st (st_load rfl (hb7.cell rfl)) rfl ?_ | refine SW.st (st_load rfl (hb8.cell rfl)) rfl ?_) | (show SW _ _ _ _ (⟨_, Op.call ⟨.value (.func _), _, _⟩, _, _, _, none⟩ :: _) _ _; (refine SW.call rfl rfl (cP _ hw) ?_; intro v w1 hw1 hv; subst hv; replace hw := Ext.trans hw hw1; replace hb2 := hb2.ext hw1; replace hb3 := hb3.ext hw1; clear hw1)))
   all_goals first | (exfalso; omega) | skip
   exact Post.again (k + 1) ⟨rfl, rfl, rfl, trivial⟩ (by omega) ⟨by omega, hw, hb2, hb3⟩
  ·repeat' (first | (show CW _ _ _ _ _ _; first | refine CW.seq ?_ | refine CW.region ?_ | refine CW.condd_f rfl (by omega) ?_ | refine CW.ret ?_ | refine CW.exit ?_) | (show Post _ _ _ _ _; first | refine Post.seq ?_ | refine Post.seq_exit ?_ | refine Post.hit ?_ | refine Post.again_exit ?_) | refine SW.nil ?_ | refine SW.pure rfl rfl ?_ | (show SW _ _ _ _ (⟨_, Op.fieldAddr _ _ _, _, _, _, none⟩ :: _) _ _; refine SW.st (st_field rfl) rfl ?_) | (show SW _ _ _ _ (⟨_, Op.call ⟨.builtin .len, _, _⟩, _, _, _, none⟩ :: _) _ _; refine SW.st (st_len rfl) rfl ?_) | (show SW _ _ _ _ (⟨_, Op.load _ _, _, _, _, none⟩ :: _) _ _; refine SW.st (st_load rfl (hb2.cell rfl)) rfl ?_))
   exact Post.ret1 rfl rfl ⟨_, rfl, hw, rfl⟩
end Go.Proofs.YtfommgdbahemfaaDoor
set_option linter.unusedVariables false
set_option linter.unusedSimpArgs false
namespace Go.Proofs.YtfommgdbahemfaaDoor
open Go.RowKit
theorem TryR.lists {m0 m1 cpu zi o t f : Int} {s : Zone × Zone} {L : List PList} {r : (Zone × Zone) × List PList × Int} (h : TryR m0 m1 cpu zi o t f s L (some r)) (hv : VS s) (hL : ∀ l ∈ L, l.Pages.length ≤ 8) : r.2.1.length ≤ L.length + 1 ∧ ∀ l ∈ r.2.1, l.Pages.length ≤ 8 := by
 cases h with
 | list ho hk hp =>
  obtain ⟨hl, _⟩ := khere_t hk
  have e := pagesAt_t hk hl
  have h8 := hL _ (List.getElem_mem hl)
  rw [← e] at h8
  simp only
  unfold popL
  split
  ·exact ⟨by have := List.length_eraseIdx_le L (kpos L ⟨cpu, zi, t, []⟩); omega, fun l hl => hL l (List.mem_of_mem_eraseIdx hl)⟩
  ·refine ⟨by rw [List.length_set]; omega, fun l hl => ?_⟩
   rcases List.mem_or_eq_of_mem_set hl with h1 | rfl
   ·exact hL l h1
   ·simp only [withPg, List.length_dropLast]; omega
 | big ho he ht hu => exact ⟨by simp only; omega, hL⟩
 | @fill u r' ho hk he ht hu hr =>
  have h3 := (hr.vs (hv.set_ (ht.keep hu).1)).2
  exact ⟨moreL_len hk, fun l hl => by
   rcases moreL_mem hk l hl with h1 | rfl
   ·exact hL l h1
   ·simp only [withPg]; omega⟩
theorem AttR.lists {m0 m1 cpu o t f : Int} {s : Zone × Zone} {L : List PList} {r : (Zone × Zone) × List PList × Int} (h : AttR m0 m1 cpu o t f s L (some r)) (hv : VS s) (hL : ∀ l ∈ L, l.Pages.length ≤ 8) : r.2.1.length ≤ L.length + 1 ∧ ∀ l ∈ r.2.1, l.Pages.length ≤ 8 := by
 cases h with
 | high _ h => exact h.lists hv hL
 | low _ h => exact h.lists hv hL
theorem AllocR.small {h : Heap} {cpu o f : Int} {u : Heap × Int × Int} (a : AllocR h cpu o f u) (hs : h.small) : u.1.small := by
 have hz : (Heap.zero).small := by constructor <;> simp [Heap.zero]
 have key : ∀ (z0 z1 : Zone) (F : FHeap h z0 z1) (s : Zone × Zone) (L : List PList) (x : Int) (t : Int), VS s → L.length ≤ 257 → (∀ l ∈ L, l.Pages.length ≤ 8) → (heapOf h s L (liveWith h x o t)).small := fun z0 z1 F s L x t hv h1 h2 => by
  have hl0 := zone_len hv.may0
  have hl1 := zone_len hv.may1
  have hll := live_len F
  have hlv : (liveWith h x o t).length ≤ 257 := by
   unfold liveWith
   have hlb : lbOf h.Live x ≤ h.Live.length := List.findIdx_le_length
   rw [length_insAt _ hlb]
   omega
  refine ⟨by simp [heapOf], hs.mins, ?_, ?_, fun z hz => ?_, fun l hl => ?_⟩
  ·simp only [heapOf]; omega
  ·simp only [heapOf]; omega
  ·simp only [heapOf, List.mem_cons, List.not_mem_nil, or_false] at hz
   rcases hz with rfl | rfl
   ·omega
   ·omega
  ·have := h2 l hl; omega
 cases a with
 | bad | range | form | room => exact hz
 | once hb hr ht hz ha =>
  obtain ⟨z0, z1, F⟩ := fheap_of (heapB_iff.1 hb)
  rw [F.d.zones] at hz
  simp only [List.cons.injEq, and_true] at hz
  obtain ⟨rfl, rfl⟩ := hz
  have hv := F.d.start.vs
  obtain ⟨g1, g2⟩ := ha.lists hv (fun l hl => (F.lists l hl).2)
  have := F.count
  exact key _ _ F _ _ _ _ (ha.found hv).1 (by omega) g2
 | twice hb hr ht hz ha h2 =>
  obtain ⟨z0, z1, F⟩ := fheap_of (heapB_iff.1 hb)
  rw [F.d.zones] at hz
  simp only [List.cons.injEq, and_true] at hz
  obtain ⟨rfl, rfl⟩ := hz
  have hv := (drained_inv F.d).vs
  obtain ⟨g1, g2⟩ := h2.lists hv (fun l hl => by simp at hl)
  simp only [List.length_nil] at g1
  exact key _ _ F _ _ _ _ (h2.found hv).1 (by omega) g2
set_option maxHeartbeats 2000000 in
theorem pagesAllocs_ans (r : HRow) (h : Heap) (cpu o f : Int) (w : World) (hr : RdH w r h) (hs : h.small) (hzn : ∀ z ∈ h.Zones, big64 z) (hO : OthW w) :
  Ans Tryd.prog 5 [.agg (encH r).toArray, .int .i64 cpu, .int .i64 o, .int .i64 f] w fun v _ => v = .bool true := by
 refine ans_of Tryd.func5 rfl Tryd.ntmps5 rfl ?_
 refine CW.seq (CW.region (SW.box rfl rfl fun b1 w1 hw hb1b hb1 => ?_))
 repeat' (first | (show CW _ _ _ _ _ _; first | refine CW.seq ?_ | refine CW.region ?_) | (show Post _ _ _ _ _; refine Post.seq ?_) | refine SW.nil ?_ | refine SW.pure rfl rfl ?_ | (show SW _ _ _ _ (⟨_, Op.load _ _, _, _, _, none⟩ :: _) _ _; refine SW.st (st_loads rfl rfl ((fun _ _ => hb1.cell))) rfl ?_))
 refine SW.call rfl rfl (HeapCopy_ans r h _ (hr.ext hw) hs) fun v w4 hw4 hv => ?_
 obtain ⟨k, rfl, hK⟩ := hv
 (replace hw := Ext.trans hw hw4; replace hb1 := hb1.ext hw4)
 refine SW.alloc rfl fun b3 w1 hw1 hb3b hb3 => ?_
 skip
 refine SW.storeAgg hb3 rfl rfl rfl rfl (one_h k) fun w2 hb3' hg => ?_
 have hXX := hw1.own hb3b hg
 have hb3w : w.heap.size ≤ b3 := Nat.le_trans hw.size hb3b
 replace hw := Ext.trans hw hXX
 replace hb1 := hb1.ext hXX
 replace hK := hK.ext hXX
 replace hb3 := hb3'
 clear hb3' hw1 hg hXX
 repeat' (first | (show CW _ _ _ _ _ _; first | refine CW.seq ?_ | refine CW.region ?_) | (show Post _ _ _ _ _; refine Post.seq ?_) | refine SW.nil ?_ | refine SW.pure rfl rfl ?_ | (show SW _ _ _ _ (⟨_, Op.load _ _, _, _, _, none⟩ :: _) _ _; refine SW.st (st_loads rfl rfl ((fun _ _ => hb3.cell))) rfl ?_))
 refine SW.call rfl rfl (Alloc_ans k h cpu o f _ hK.rd hs hzn (hO.ext hw)) fun v w5 hw5 hv => ?_
 obtain ⟨u, hu, s1, rfl, hs1⟩ := hv
 have hsm := hu.small hs
 (replace hw := Ext.trans hw hw5; replace hb1 := hb1.ext hw5; replace hb3 := hb3.ext hw5; replace hK := hK.ext hw5)
 repeat' (refine SW.pure rfl rfl ?_)
 refine SW.alloc rfl fun b4 w1 hw1 hb4b hb4 => ?_
 skip
 refine SW.storeAgg hb4 rfl rfl rfl rfl (one_h s1) fun w2 hb4' hg => ?_
 have hXX := hw1.own hb4b hg
 have hb4w : w.heap.size ≤ b4 := Nat.le_trans hw.size hb4b
 replace hw := Ext.trans hw hXX
 replace hb1 := hb1.ext hXX
 replace hb3 := hb3.ext hXX
 replace hK := hK.ext hXX
 replace hs1 := hs1.ext hXX
 replace hb4 := hb4'
 clear hb4' hw1 hg hXX
 repeat' (first | (show CW _ _ _ _ _ _; first | refine CW.seq ?_ | refine CW.region ?_) | (show Post _ _ _ _ _; refine Post.seq ?_) | refine SW.nil ?_ | refine SW.pure rfl rfl ?_ | (show SW _ _ _ _ (⟨_, Op.load _ _, _, _, _, none⟩ :: _) _ _; refine SW.st (st_loads rfl rfl ((fun _ _ => hb1.cell))) rfl ?_))
 refine SW.call rfl rfl (HeapAlloc_ans r h cpu o f _ (hr.ext hw) hs hzn) fun v w6 hw6 hv => ?_
 obtain ⟨u', hu', s2, rfl, hs2⟩ := hv
 obtain rfl := hu.det hu'
 (replace hw := Ext.trans hw hw6; replace hb1 := hb1.ext hw6; replace hb3 := hb3.ext hw6; replace hb4 := hb4.ext hw6; replace hK := hK.ext hw6; replace hs1 := hs1.ext hw6)
 repeat' (refine SW.pure rfl rfl ?_)
 refine SW.alloc rfl fun b6 w1 hw1 hb6b hb6 => ?_
 skip
 refine SW.storeAgg hb6 rfl rfl rfl rfl (one_h s2) fun w2 hb6' hg => ?_
 have hXX := hw1.own hb6b hg
 have hb6w : w.heap.size ≤ b6 := Nat.le_trans hw.size hb6b
 replace hw := Ext.trans hw hXX
 replace hb1 := hb1.ext hXX
 replace hb3 := hb3.ext hXX
 replace hb4 := hb4.ext hXX
 replace hK := hK.ext hXX
 replace hs1 := hs1.ext hXX
 replace hs2 := hs2.ext hXX
 replace hb6 := hb6'
 clear hb6' hw1 hg hXX
 have cA : ∀ w', Ext w w' → RdH w' s1 u.1 → RdH w' s2 u.1 → Ans Tryd.prog 15 [.agg (encH s1).toArray, .agg (encH s2).toArray] w' fun v _ => v = .bool true := fun w' _ h1 h2 => sameHeap_ans s1 s2 u.1 w' h1 h2 hsm
 have cB : ∀ w', Ext w w' → RdH w' k h → Ans Tryd.prog 15 [.agg (encH k).toArray, .agg (encH r).toArray] w' fun v _ => v = .bool true := fun w' hx h1 => sameHeap_ans k r h w' h1 (hr.ext hx) hs
 repeat' (first | (show CW _ _ _ _ _ _; first | refine CW.seq ?_ | refine CW.region ?_ | refine CW.ret ?_) | (show Post _ _ _ _ _; refine Post.seq ?_) | refine SW.nil ?_ | (show SW _ _ _ _ (⟨_, _, _, _, _, some _⟩ :: _) _ _; first | refine SW.want_t rfl rfl (by with_reducible rfl) ?_ | refine SW.splitd_t rfl rfl rfl (by omega) ?_) | refine SW.pure rfl rfl ?_ | (show SW _ _ _ _ (⟨_, Op.load _ _, _, _, _, none⟩ :: _) _ _; first | refine SW.st (st_loads rfl rfl ((fun _ _ => hb4.cell))) rfl ?_ | refine SW.st (st_loads rfl rfl ((fun _ _ => hb6.cell))) rfl ?_ | refine SW.st (st_loads rfl rfl ((fun _ _ => hb3.cell))) rfl ?_ | refine SW.st (st_loads rfl rfl ((fun _ _ => hb1.cell))) rfl ?_) | (show SW _ _ _ _ (⟨_, Op.call ⟨.value (.func _), _, _⟩, _, _, _, none⟩ :: _) _ _; first | (refine SW.call rfl rfl (cA _ hw hs1.rd hs2.rd) ?_; intro v w1 hw1 hv; subst hv; replace hw := Ext.trans hw hw1; replace hb1 := hb1.ext hw1; replace hb3 := hb3.ext hw1; replace hb4 := hb4.ext hw1; replace hb6 := hb6.ext hw1; replace hK := hK.ext hw1; replace hs1 := hs1.ext hw1; replace hs2 := hs2.ext hw1; clear hw1) | (refine SW.call rfl rfl (cB _ hw hK.rd) ?_; intro v w1 hw1 hv; subst hv; replace hw := Ext.trans hw hw1; replace hb1 := hb1.ext hw1; replace hb3 := hb3.ext hw1; replace hb4 := hb4.ext hw1; replace hb6 := hb6.ext hw1; replace hK := hK.ext hw1; replace hs1 := hs1.ext hw1; replace hs2 := hs2.ext hw1; clear hw1)))
 all_goals first | (exfalso; omega) | skip
 exact Post.ret1 rfl rfl ⟨_, rfl, hw, rfl⟩
end Go.Proofs.YtfommgdbahemfaaDoor
