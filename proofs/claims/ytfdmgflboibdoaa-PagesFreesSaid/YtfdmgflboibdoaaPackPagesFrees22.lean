/-
  Contract: HeapFree of the reference.
-/
import Derived.Test.YtfdmgflboibdoaaPackPagesFrees19
import Derived.Test.YtfdmgflboibdoaaPackPagesFrees20
import Derived.Test.YtfdmgflboibdoaaPackPagesFrees15
import Derived.Test.YtfdmgflboibdoaaPackPagesFrees21
import Derived.Test.YtfdmgflboibdoaaPackPagesFrees11
set_option linter.unusedVariables false
set_option linter.unusedSimpArgs false
namespace Go.Proofs.Ytfdmgflboibdoaa
open Go.RowKit

/-- the order that the reference has found so far -/
def ordI (l : List Block) (a : Int) (i : Nat) : Int := if (foundA l a && decide (lbOf l a < i)) = true then (l.getD (lbOf l a) ⟨0, 0, 0⟩).Order else -1
theorem ordI_zero (l : List Block) (a : Int) : ordI l a 0 = -1 := by simp [ordI]
theorem ordI_hit {l : List Block} (hu : l.Pairwise fun x y => x.At < y.At) {a : Int} {i : Nat} (hi : i < l.length) (h : l[i].At = a) : ordI l a (i + 1) = l[i].Order := by
  obtain ⟨e1, e2⟩ := found_uniq hu hi h
  have : l.getD i ⟨0, 0, 0⟩ = l[i] := by rw [List.getD_eq_getElem?_getD, List.getElem?_eq_getElem hi]; rfl
  rw [ordI, e1, e2, this, decide_eq_true (Nat.lt_succ_self i)]
  rfl
theorem ordI_miss {l : List Block} {a : Int} {i : Nat} (hi : i < l.length) (h : l[i].At ≠ a) : ordI l a (i + 1) = ordI l a i := by
  have key : (foundA l a && decide (lbOf l a < i + 1)) = (foundA l a && decide (lbOf l a < i)) := by
    cases e : foundA l a with
    | false => rfl
    | true =>
      obtain ⟨hk, hka⟩ := found_at e
      have hne : lbOf l a ≠ i := fun e => h (by simp only [← e]; exact hka)
      simp only [Bool.true_and]
      by_cases h1 : lbOf l a < i
      · rw [decide_eq_true h1, decide_eq_true (by omega)]
      · rw [decide_eq_false h1, decide_eq_false (by omega)]
  unfold ordI
  rw [key]
theorem ordI_all {l : List Block} {a : Int} {k : Nat} (h : foundA l a = true) (hk : k < l.length) (e : lbOf l a = k) : ordI l a l.length = l[k].Order := by
  have : l.getD k ⟨0, 0, 0⟩ = l[k] := by rw [List.getD_eq_getElem?_getD, List.getElem?_eq_getElem hk]; rfl
  unfold ordI
  rw [h, e, decide_eq_true hk, this]
  rfl
theorem ordI_none {l : List Block} {a : Int} (h : foundA l a = false) (i : Nat) : ordI l a i = -1 := by simp [ordI, h]

set_option maxHeartbeats 16000000 in
theorem HeapFree_ans (r : HRow) (h : Heap) (cpu a : Int) (w : World) (hr : RdH w r h) (hs : h.small) (hzn : ∀ z ∈ h.Zones, big64 z) (ha : -9223372036854775808 ≤ a ∧ a ≤ 9223372036854775807) :
    Ans Try.prog 63 [.agg (encH r).toArray, .int .i64 cpu, .int .i64 a] w (HeapOut w.heap.size (freeV h cpu a)) := by
  refine ans_of Try.func63 rfl Try.ntmps63 rfl ?_
  refine CW.seq (CW.region (SW.box rfl rfl fun b3 w1 hw hb3b hb3 => ?_))
  refine SW.alloc rfl fun b6 w2 hw2 hb6b hb6 => ?_
  have hb6w : w.heap.size ≤ b6 := Nat.le_trans hw.size hb6b
  (replace hw := Ext.trans hw hw2; replace hb3 := hb3.ext hw2)
  have eC := hr.cpus
  obtain ⟨q, hq⟩ : ∃ q, heapB h = q := ⟨_, rfl⟩
  have c1 : ∀ w', Ext w w' → Ans Try.prog 44 [.agg (encH r).toArray] w' fun v _ => v = .bool q := fun w' hx => by
    have := HMay_ans r h w' (hr.ext hx) hs hzn
    rwa [hq] at this
  cases q
  · rw [freeV_8 hq]
    repeat' (first | (show CW _ _ _ _ _ _; first | refine CW.seq ?_ | refine CW.region ?_ | refine CW.condt rfl ?_) | (show Post _ _ _ _ _; refine Post.seq ?_) | refine SW.nil ?_ | refine SW.pure rfl rfl ?_ | (show SW _ _ _ _ (⟨_, Op.build _ _, _, _, _, none⟩ :: _) _ _; refine SW.st (st_build rfl rfl) rfl ?_) | (show SW _ _ _ _ (⟨_, Op.load _ _, _, _, _, none⟩ :: _) _ _; refine SW.st (st_loads rfl rfl ((fun _ _ => hb3.cell))) rfl ?_) | (show SW _ _ _ _ (⟨_, Op.call ⟨.value (.func _), _, _⟩, _, _, _, none⟩ :: _) _ _; (refine SW.call rfl rfl (c1 _ hw) ?_; intro v w1 hw1 hv; subst hv; replace hw := Ext.trans hw hw1; replace hb3 := hb3.ext hw1; replace hb6 := hb6.ext hw1; clear hw1)))
    refine SW.storeAgg hb6 rfl rfl rfl rfl (one_h .zero) fun w5 hR2 hg => ?_
    replace hw := hw.own hb6w hg
    repeat' (first | (show CW _ _ _ _ _ _; refine CW.ret ?_) | (show Post _ _ _ _ _; first | refine Post.seq ?_ | refine Post.seq_ret ?_) | refine SW.nil ?_ | refine SW.pure rfl rfl ?_)
    exact Post.ret2c rfl rfl rfl hR2 rfl ⟨_, rfl, hw, HeapOut.zero 8 _ _⟩
  · have hm := heapB_iff.1 hq
    obtain ⟨z0, z1, f⟩ := fheap_of hm
    have hcp := f.cpus
    by_cases hc : 0 ≤ cpu ∧ cpu < h.Cpus
    · repeat' (first | (show CW _ _ _ _ _ _; first | refine CW.seq ?_ | refine CW.region ?_ | refine CW.block ?_ | refine CW.condn_f rfl (by omega) ?_ | refine CW.condf rfl ?_ | refine CW.skip ?_) | (show Post _ _ _ _ _; refine Post.seq ?_) | refine SW.nil ?_ | refine SW.pure rfl rfl ?_ | (show SW _ _ _ _ (⟨_, Op.fieldAddr _ _ _, _, _, _, none⟩ :: _) _ _; refine SW.st (st_field rfl) rfl ?_) | (show SW _ _ _ _ (⟨_, Op.binOp _ _ _ _ _, _, _, _, none⟩ :: _) _ _; refine SW.st (st_sub rfl rfl (by omega) (by omega)) rfl ?_) | (show SW _ _ _ _ (⟨_, Op.load _ _, _, _, _, none⟩ :: _) _ _; first | refine SW.st (st_loads rfl rfl ((fun _ _ => hb3.cell))) rfl ?_ | refine SW.st (st_load rfl (hb3.cell (i := 2) (v := .int .i64 r.Cpus) rfl)) rfl ?_) | (show SW _ _ _ _ (⟨_, Op.call ⟨.value (.func _), _, _⟩, _, _, _, none⟩ :: _) _ _; first | (refine SW.call rfl rfl (c1 _ hw) ?_; intro v w1 hw1 hv; subst hv; replace hw := Ext.trans hw hw1; replace hb3 := hb3.ext hw1; replace hb6 := hb6.ext hw1; clear hw1) | (refine SW.call rfl rfl (In_ans _ _ _ _) ?_; intro v w1 hw1 hv; subst hv; replace hw := Ext.trans hw hw1; replace hb3 := hb3.ext hw1; replace hb6 := hb6.ext hw1; clear hw1)))
      all_goals first | (exfalso; omega) | skip
      clear c1
      have hvl := hr.live.len
      have s2 := hs.live
      have hlt := live_lt f.live
      have hAv := hr.live.base
      refine CW.loop (fun i : Nat => [(1, .int .i64 cpu), (2, .int .i64 a), (3, .pointer (some ⟨b3, 0, none⟩)), (6, .pointer (some ⟨b6, 0, none⟩)), (8, .int .i64 (ordI h.Live a i)), (9, .int .i64 (i : Int))])
        (fun i w' => i ≤ r.Live.n ∧ Ext w w' ∧ Blk w' b3 27 (encH r) ∧ Blk w' b6 27 (encH .zero)) (fun i => r.Live.n - i) 0
        ⟨rfl, rfl, rfl, rfl, by rw [ordI_zero]; rfl, rfl, trivial⟩ ⟨by omega, hw, hb3, hb6⟩ ?_
      clear hw hb3 hb6
      rintro i w' ⟨hi, hw, hb3, hb6⟩
      by_cases hin : i < r.Live.n
      · have hil : i < h.Live.length := by omega
        have g0 := hr.live.fld hin (j := 0) (u := .int .i64 h.Live[i].At) rfl
        have g1 := hr.live.fld hin (j := 1) (u := .int .i64 h.Live[i].Order) rfl
        by_cases hat : h.Live[i].At = a
        · have eo := ordI_hit hlt hil hat
          repeat' (first | (show CW _ _ _ _ _ _; first | refine CW.seq ?_ | refine CW.region ?_ | refine CW.block ?_ | refine CW.condd_t rfl (by omega) ?_ | refine CW.skip ?_) | (show Post _ _ _ _ _; first | refine Post.seq ?_ | refine Post.blk ?_) | refine SW.nil ?_ | refine SW.pure rfl rfl ?_ | (show SW _ _ _ _ (⟨_, Op.fieldAddr _ _ _, _, _, _, none⟩ :: _) _ _; refine SW.st (st_field rfl) rfl ?_) | (show SW _ _ _ _ (⟨_, Op.binOp _ _ _ _ _, _, _, _, none⟩ :: _) _ _; refine SW.st (st_add rfl rfl (by omega) (by omega)) rfl ?_) | (show SW _ _ _ _ (⟨_, Op.indexAddr _ _ _, _, _, _, none⟩ :: _) _ _; refine SW.st (st_indexN rfl rfl (by assumption) (by omega)) rfl ?_) | (show SW _ _ _ _ (⟨_, Op.call ⟨.builtin .len, _, _⟩, _, _, _, none⟩ :: _) _ _; refine SW.st (st_len rfl) rfl ?_) | (show SW _ _ _ _ (⟨_, Op.load _ _, _, _, _, none⟩ :: _) _ _; first | refine SW.st (st_load rfl (hb3.cell (i := 4) (v := .slice r.Live.A r.Live.n r.Live.c) rfl)) rfl ?_ | refine SW.st (st_loadx hw rfl g0) rfl ?_ | refine SW.st (st_loadx hw rfl g1) rfl ?_))
          exact Post.again (i + 1) ⟨rfl, rfl, rfl, rfl, by rw [eo]; rfl, rfl, trivial⟩ (by omega) ⟨by omega, hw, hb3, hb6⟩
        · have eo := ordI_miss hil hat
          repeat' (first | (show CW _ _ _ _ _ _; first | refine CW.seq ?_ | refine CW.region ?_ | refine CW.block ?_ | refine CW.condd_t rfl (by omega) ?_ | refine CW.condd_f rfl (by omega) ?_ | refine CW.skip ?_) | (show Post _ _ _ _ _; first | refine Post.seq ?_ | refine Post.blk ?_) | refine SW.nil ?_ | refine SW.pure rfl rfl ?_ | (show SW _ _ _ _ (⟨_, Op.fieldAddr _ _ _, _, _, _, none⟩ :: _) _ _; refine SW.st (st_field rfl) rfl ?_) | (show SW _ _ _ _ (⟨_, Op.binOp _ _ _ _ _, _, _, _, none⟩ :: _) _ _; refine SW.st (st_add rfl rfl (by omega) (by omega)) rfl ?_) | (show SW _ _ _ _ (⟨_, Op.indexAddr _ _ _, _, _, _, none⟩ :: _) _ _; refine SW.st (st_indexN rfl rfl (by assumption) (by omega)) rfl ?_) | (show SW _ _ _ _ (⟨_, Op.call ⟨.builtin .len, _, _⟩, _, _, _, none⟩ :: _) _ _; refine SW.st (st_len rfl) rfl ?_) | (show SW _ _ _ _ (⟨_, Op.load _ _, _, _, _, none⟩ :: _) _ _; first | refine SW.st (st_load rfl (hb3.cell (i := 4) (v := .slice r.Live.A r.Live.n r.Live.c) rfl)) rfl ?_ | refine SW.st (st_loadx hw rfl g0) rfl ?_))
          exact Post.again (i + 1) ⟨rfl, rfl, rfl, rfl, by rw [eo]; rfl, rfl, trivial⟩ (by omega) ⟨by omega, hw, hb3, hb6⟩
      · have ei : i = h.Live.length := by omega
        subst ei
        cases hf : foundA h.Live a
        · rw [freeV_4 hq hc hf, ordI_none hf]
          repeat' (first | (show CW _ _ _ _ _ _; first | refine CW.seq ?_ | refine CW.region ?_ | refine CW.condd_t rfl (by omega) ?_ | refine CW.condd_f rfl (by omega) ?_ | refine CW.exit ?_) | (show Post _ _ _ _ _; first | refine Post.seq ?_ | refine Post.seq_exit ?_ | refine Post.hit ?_ | refine Post.again_exit ?_) | refine SW.nil ?_ | refine SW.pure rfl rfl ?_ | (show SW _ _ _ _ (⟨_, Op.fieldAddr _ _ _, _, _, _, none⟩ :: _) _ _; refine SW.st (st_field rfl) rfl ?_) | (show SW _ _ _ _ (⟨_, Op.build _ _, _, _, _, none⟩ :: _) _ _; refine SW.st (st_build rfl rfl) rfl ?_) | (show SW _ _ _ _ (⟨_, Op.call ⟨.builtin .len, _, _⟩, _, _, _, none⟩ :: _) _ _; refine SW.st (st_len rfl) rfl ?_) | (show SW _ _ _ _ (⟨_, Op.load _ _, _, _, _, none⟩ :: _) _ _; refine SW.st (st_load rfl (hb3.cell (i := 4) (v := .slice r.Live.A r.Live.n r.Live.c) rfl)) rfl ?_))
          refine SW.storeAgg hb6 rfl rfl rfl rfl (one_h .zero) fun w5 hR2 hg => ?_
          replace hw := hw.own hb6w hg
          repeat' (first | (show CW _ _ _ _ _ _; refine CW.ret ?_) | (show Post _ _ _ _ _; first | refine Post.seq ?_ | refine Post.seq_ret ?_) | refine SW.nil ?_ | refine SW.pure rfl rfl ?_)
          exact Post.ret2c rfl rfl rfl hR2 rfl ⟨_, rfl, hw, HeapOut.zero 4 _ _⟩
        · rw [freeV_0 hq hc hf]
          obtain ⟨hk, hka⟩ := found_at hf
          obtain ⟨k, ek⟩ : ∃ k, lbOf h.Live a = k := ⟨_, rfl⟩
          simp only [ek] at hk hka
          have hlk := f.live.each k hk
          have hNx := f.next hk
          have hord := hlk.1
          rw [ordI_all hf hk ek]
          repeat' (first | (show CW _ _ _ _ _ _; first | refine CW.seq ?_ | refine CW.region ?_ | refine CW.condd_f rfl (by omega) ?_ | refine CW.skip ?_ | refine CW.exit ?_) | (show Post _ _ _ _ _; first | refine Post.seq ?_ | refine Post.seq_exit ?_ | refine Post.hit ?_ | refine Post.again_exit ?_) | refine SW.nil ?_ | refine SW.pure rfl rfl ?_ | (show SW _ _ _ _ (⟨_, Op.fieldAddr _ _ _, _, _, _, none⟩ :: _) _ _; refine SW.st (st_field rfl) rfl ?_) | (show SW _ _ _ _ (⟨_, Op.call ⟨.builtin .len, _, _⟩, _, _, _, none⟩ :: _) _ _; refine SW.st (st_len rfl) rfl ?_) | (show SW _ _ _ _ (⟨_, Op.load _ _, _, _, _, none⟩ :: _) _ _; first | refine SW.st (st_load rfl (hb3.cell (i := 4) (v := .slice r.Live.A r.Live.n r.Live.c) rfl)) rfl ?_ | refine SW.st (st_loads rfl rfl ((fun _ _ => hb3.cell))) rfl ?_))
          refine SW.call rfl rfl (HeapCopy_ans r h _ (hr.ext hw) hs) fun v w4 hw4 hv => ?_
          obtain ⟨s, rfl, hO⟩ := hv
          replace hO := hO.low hw.size
          (replace hw := Ext.trans hw hw4; replace hb3 := hb3.ext hw4; replace hb6 := hb6.ext hw4)
          have hlt6 := hb6.lt
          have hlt3 := hb3.lt
          refine SW.alloc rfl fun b10 w1 hw1 hb10b hb10 => ?_
          skip
          refine SW.storeAgg hb10 rfl rfl rfl rfl (one_h s) fun w2 hb10' hg => ?_
          have hXX := hw1.own hb10b hg
          have hb10w : w.heap.size ≤ b10 := Nat.le_trans hw.size hb10b
          replace hw := Ext.trans hw hXX
          replace hb3 := hb3.ext hXX
          replace hb6 := hb6.ext hXX
          replace hO := hO.ext hXX
          replace hb10 := hb10'
          clear hb10' hw1 hg hXX
          have hne310 : b3 ≠ b10 := by omega
          have hM := hO.mins
          have hV0 := hO.live
          have ecp := hO.cpus
          obtain ⟨g, c, u0, u1, ls, eZ, hZ, hRs⟩ := hO.split f.d.zones
          have hL := hRs.lists
          clear hO hRs
          obtain ⟨sz, m, cp, li, lv⟩ := s
          simp only at eZ hM hV0 hL ecp
          subst eZ
          have hvn := hV0.sl.len
          repeat' (first | (show CW _ _ _ _ _ _; first | refine CW.seq ?_ | refine CW.region ?_) | (show Post _ _ _ _ _; refine Post.seq ?_) | refine SW.nil ?_ | refine SW.pure rfl rfl ?_ | (show SW _ _ _ _ (⟨_, Op.fieldAddr _ _ _, _, _, _, none⟩ :: _) _ _; refine SW.st (st_field rfl) rfl ?_) | (show SW _ _ _ _ (⟨_, Op.load _ _, _, _, _, none⟩ :: _) _ _; refine SW.st (st_load rfl (hb10.cell (i := 4) (v := .slice lv.A lv.n lv.c) rfl)) rfl ?_))
          refine SW.call rfl rfl (without_ans lv.A lv.n lv.c h.Live a h.Live[k].Order _ hV0.sl (by omega)) fun v w5 hw5 hv => ?_
          obtain ⟨B, cB, rfl, hV⟩ := hv
          replace hV := hV.low hw.size
          (replace hw := Ext.trans hw hw5; replace hb3 := hb3.ext hw5; replace hb6 := hb6.ext hw5; replace hb10 := hb10.ext hw5; replace hZ := hZ.ext hw5; replace hM := hM.ext hw5; replace hL := hL.ext hw5)
          clear hV0
          have hne610 : b6 ≠ b10 := by omega
          repeat' (first | refine SW.pure rfl rfl ?_ | (show SW _ _ _ _ (⟨_, Op.fieldAddr _ _ _, _, _, _, none⟩ :: _) _ _; refine SW.st (st_field rfl) rfl ?_))
          refine SW.storeB (i := 4) hb10 rfl rfl rfl rfl fun w7 hb10' hg => ?_
          have hG := hb10.gr hg
          replace hw := hw.own hb10w hg
          replace hb6 := hb6.grown hg (by simpa using hne610)
          replace hb3 := hb3.grown hg (by simpa using hne310)
          (replace hZ := hZ.grT hG rfl; replace hM := hM.grT hG rfl; replace hV := hV.grT hG rfl; replace hL := hL.grT hG rfl)
          replace hb10 : Blk w7 b10 27 (encH ⟨⟨some ⟨g, 0, none⟩, 2, c⟩, m, cp, li, ⟨B, (without h.Live a h.Live[k].Order).length, cB⟩⟩) := hb10'
          clear hb10' hg hG
          have hera := erase_at hlt hk hka rfl
          have hg6 : b6 ≠ g := fun e => hZ.row.ne_blk hb6 rfl (by rw [hZ.own, e])
          have hg10 : b10 ≠ g := fun e => hZ.row.ne_blk hb10 rfl (by rw [hZ.own, e])
          by_cases ho : 0 < h.Live[k].Order
          · rw [freedV_big f.d.zones hk ek ho, hera]
            repeat' (first | (show CW _ _ _ _ _ _; first | refine CW.seq ?_ | refine CW.region ?_ | refine CW.condd_t rfl (by omega) ?_) | (show Post _ _ _ _ _; refine Post.seq ?_) | refine SW.nil ?_ | refine SW.pure rfl rfl ?_ | (show SW _ _ _ _ (⟨_, Op.load _ _, _, _, _, none⟩ :: _) _ _; refine SW.st (st_loads rfl rfl ((fun _ _ => hb10.cell))) rfl ?_))
            have hcall := fun w' (h1 : ZsOwn w' w.heap.size g c u0 u1 (z0, z1)) (h2 : w.heap.size ≤ w'.heap.size) => returned_ans m cp li ⟨B, (without h.Live a h.Live[k].Order).length, cB⟩ u0 u1 _ _ h.Live[k] w.heap.size g c w' h1 h2 f.d.start hNx
            rw [hka] at hcall
            refine SW.callX rfl rfl (hcall _ hZ hw.size) fun v w8 hv => ?_
            obtain ⟨rfl, hg, u2, u3, hZ'⟩ := hv
            have hG := hZ.gr hg
            replace hw := hw.own hZ.glo hg
            (replace hb6 := hb6.grT hG rfl; replace hM := hM.grT hG rfl; replace hV := hV.grT hG rfl; replace hL := hL.grT hG rfl)
            clear hZ hg hG
            refine SW.storeAgg hb6 rfl rfl rfl rfl (one_h ⟨⟨some ⟨g, 0, none⟩, 2, c⟩, m, cp, li, ⟨B, (without h.Live a h.Live[k].Order).length, cB⟩⟩) fun w9 hR2 hg => ?_
            have hG := hb6.gr hg
            replace hw := hw.own hb6w hg
            replace hZ' := hZ'.grT hG rfl
            (replace hM := hM.grT hG rfl; replace hV := hV.grT hG rfl; replace hL := hL.grT hG rfl)
            repeat' (first | (show CW _ _ _ _ _ _; refine CW.ret ?_) | (show Post _ _ _ _ _; first | refine Post.seq ?_ | refine Post.seq_ret ?_) | refine SW.nil ?_ | refine SW.pure rfl rfl ?_)
            exact Post.ret2c rfl rfl rfl hR2 rfl ⟨_, rfl, hw, ⟨⟨some ⟨g, 0, none⟩, 2, c⟩, m, cp, li, ⟨B, (without h.Live a h.Live[k].Order).length, cB⟩⟩, rfl, ⟨ecp, hM, hV, ⟨[u2, u3], ⟨hZ'.row, All2.two hZ'.z0 hZ'.z1⟩⟩, ⟨ls, hL⟩⟩⟩
          · rw [freedV_one f.d.zones hk ek ho, hera]
            have hA2 := hNx.at_
            rw [hka] at hA2
            have hmd := f.d.mid
            have ht1 := f.d.to1
            obtain ⟨zs, hzs⟩ := hr.zones
            have l0 := hzs.each.len
            rw [f.d.zones] at l0
            obtain ⟨v0, v1, rfl⟩ := two_of (show zs.length = 2 from l0)
            have r0 := hzs.each.get 0 (by simp) (by simp [f.d.zones])
            have r1 := hzs.each.get 1 (by simp) (by simp [f.d.zones])
            simp only [f.d.zones] at r0 r1
            have r0 : RdZ w v0 z0 := r0
            have r1 : RdZ w v1 z1 := r1
            have e1F := r1.from_
            have hAz := hzs.row.base
            have hzn2 : 2 = r.Zones.n := hzs.row.len
            have hsel : ∃ (zi : Nat) (ui : ZRow) (zz : Zone), ∃ k0 : zi < 2, [v0, v1][zi]'k0 = ui ∧ (if a < v1.From then (0 : Int) else 1) = (zi : Int) ∧ RdZ w ui zz ∧ ZoneMay zz ∧ (zz.From ≤ a ∧ a < zz.To) ∧ keyOf z0 z1 cpu a = ⟨cpu, (zi : Int), typeZ zz a, []⟩ := by
              by_cases hx : a < z0.To
              · exact ⟨0, v0, z0, by omega, rfl, by rw [if_pos (by omega)]; rfl, r0, f.d.may0, ⟨by have := f.d.from0; omega, hx⟩, by unfold keyOf; rw [if_pos hx, if_pos hx]; rfl⟩
              · exact ⟨1, v1, z1, by omega, rfl, by rw [if_neg (by omega)]; rfl, r1, f.d.may1, ⟨by omega, by omega⟩, by unfold keyOf; rw [if_neg hx, if_neg hx]; rfl⟩
            obtain ⟨zi, ui, zz, k0, hui, hzi, hoz, hmz, ⟨hz1, hz2⟩, hkey⟩ := hsel
            have cz : ∀ w', Ext w w' → Ans Try.prog 131 [.agg (encH r).toArray, .int .i64 a] w' fun v _ => v = .int .i64 (zi : Int) := fun w' hx => by
              have := zoneAt2_ans r v0 v1 a w' (hzs.row.ext hx)
              rwa [hzi] at this
            obtain ⟨ti, hti, htl⟩ := typeIdx hmz hz1 hz2
            have hzr : zi < r.Zones.n := by omega
            have hoF := hoz.from_
            have htn := hoz.types.len
            have hAt := hoz.types.base
            have fz0 := hzs.row.fld hzr (j := 0) (u := .int .i64 ui.From) (by simp only [hui]; rfl)
            have fz3 := hzs.row.fld hzr (j := 3) (u := .slice ui.Types.A ui.Types.n ui.Types.c) (by simp only [hui]; rfl)
            have hti2 : ti < ui.Types.n := by omega
            have ft := hoz.types.one hti2 rfl
            have etz : typeZ zz a = zz.Types[ti] := by
              unfold typeZ
              rw [hti, Int.toNat_natCast, List.getD_eq_getElem?_getD, List.getElem?_eq_getElem htl]; rfl
            obtain ⟨t, ht⟩ : ∃ t, zz.Types[ti] = t := ⟨_, rfl⟩
            rw [ht] at ft etz
            have hmo := hmz.ok
            unfold zoneOk at hmo
            repeat' (first | (show CW _ _ _ _ _ _; first | refine CW.seq ?_ | refine CW.region ?_ | refine CW.condd_f rfl (by omega) ?_ | refine CW.skip ?_) | (show Post _ _ _ _ _; refine Post.seq ?_) | refine SW.nil ?_ | refine SW.pure rfl rfl ?_ | (show SW _ _ _ _ (⟨_, Op.load _ _, _, _, _, none⟩ :: _) _ _; refine SW.st (st_loads rfl rfl ((fun _ _ => hb3.cell))) rfl ?_) | (show SW _ _ _ _ (⟨_, Op.call ⟨.value (.func _), _, _⟩, _, _, _, none⟩ :: _) _ _; (refine SW.call rfl rfl (cz _ hw) ?_; intro v w1 hw1 hv; subst hv; replace hw := Ext.trans hw hw1; replace hb3 := hb3.ext hw1; replace hb6 := hb6.ext hw1; replace hb10 := hb10.ext hw1; replace hZ := hZ.ext hw1; replace hM := hM.ext hw1; replace hV := hV.ext hw1; replace hL := hL.ext hw1; clear hw1)))
            (apply CW.quiet1 mixed; (· kernel_rfl); rotate_left; intro w1 hw1; replace hw := Ext.trans hw hw1; replace hb3 := hb3.ext hw1; replace hb6 := hb6.ext hw1; replace hb10 := hb10.ext hw1; replace hZ := hZ.ext hw1; replace hM := hM.ext hw1; replace hV := hV.ext hw1; replace hL := hL.ext hw1; clear hw1; rotate_right)
            repeat' (first | (show CW _ _ _ _ _ _; first | refine CW.seq ?_ | refine CW.region ?_) | (show Post _ _ _ _ _; refine Post.seq ?_) | refine SW.pure rfl rfl ?_ | (show SW _ _ _ _ (⟨_, Op.fieldAddr _ _ _, _, _, _, none⟩ :: _) _ _; refine SW.st (st_field rfl) rfl ?_) | (show SW _ _ _ _ (⟨_, Op.binOp _ _ _ _ _, _, _, _, none⟩ :: _) _ _; first | refine SW.st (st_sub rfl rfl (by omega) (by omega)) rfl ?_ | refine SW.st (st_quo rfl rfl (by omega) (by omega) (by omega)) rfl ?_) | (show SW _ _ _ _ (⟨_, Op.indexAddr _ _ _, _, _, _, none⟩ :: _) _ _; first | refine SW.st (st_indexN rfl rfl (by assumption) (by omega)) rfl ?_ | refine SW.st (st_indexI (ti) rfl rfl (by assumption) (by omega) (by omega)) rfl ?_) | (show SW _ _ _ _ (⟨_, Op.load _ _, _, _, _, none⟩ :: _) _ _; first | refine SW.st (st_load rfl (hb3.cell (i := 0) (v := .slice r.Zones.A r.Zones.n r.Zones.c) rfl)) rfl ?_ | refine SW.st (st_loadx hw rfl fz0) rfl ?_ | refine SW.st (st_loadx hw rfl fz3) rfl ?_ | refine SW.st (st_loadx hw rfl ft) rfl ?_) | exact SW.qnil rfl)
            obtain ⟨x, hx⟩ : ∃ x : PList, x = ⟨cpu, zi, t, []⟩ := ⟨_, rfl⟩
            have hkey2 : keyOf z0 z1 cpu a = x := by rw [hkey, etz, hx]
            rw [hkey2]
            obtain ⟨pg, hpg⟩ : ∃ pg, pagesAt h.Lists x ++ [a] = pg := ⟨_, rfl⟩
            rw [hpg]
            have hpb : ∀ l ∈ h.Lists, l.Pages.length * 8 ≤ 140737488355328 := fun l hl => by have := (f.lists l hl).2; omega
            have hcnt := f.count
            have hlnn : li.n ≤ 256 := by have := hL.rd.len.2; omega
            have hpl0 : (pagesAt h.Lists x).length ≤ 8 := by
              cases e : khere h.Lists x with
              | false => rw [pagesAt_f e]; simp
              | true =>
                obtain ⟨h1, _⟩ := khere_t e
                rw [pagesAt_t e h1]
                exact (f.lists _ (List.getElem_mem h1)).2
            have hpgl : pg.length = (pagesAt h.Lists x).length + 1 := by rw [← hpg]; simp
            repeat' (first | refine SW.pure rfl rfl ?_ | (show SW _ _ _ _ (⟨_, Op.load _ _, _, _, _, none⟩ :: _) _ _; refine SW.st (st_loads rfl rfl ((fun _ _ => hb10.cell))) rfl ?_))
            have hlo := listOf_ans ⟨⟨some ⟨g, 0, none⟩, 2, c⟩, m, cp, li, ⟨B, (without h.Live a h.Live[k].Order).length, cB⟩⟩ h.Lists ls x _ hL.rd f.sorted (by simp only; omega) hpb
            rw [hx] at hlo
            refine SW.call rfl rfl hlo fun v w5 hX5 hv => ?_
            rw [← hx] at hv
            obtain ⟨A3, c3, rfl, hP3⟩ := hv
            repeat' (refine SW.pure rfl rfl ?_)
            refine SW.build1 rfl rfl rfl rfl rfl fun b w6 hX6 hb hB => ?_
            replace hP3 := hP3.ext hX6
            replace hX5 := Ext.trans hX5 hX6
            refine SW.append hP3 (Blk.sl1 (enc := encI) hB) hX5.size rfl rfl rfl (by omega) (by omega) fun A4 c4 w7 hPg hg => ?_
            have hX7 := ext_grown hX5 hg (Nat.le_refl _) hP3.row_ge
            replace hPg := hPg.low hw.size
            rw [hpg, ← hpgl] at hPg
            rw [← hpgl]
            (replace hw := Ext.trans hw hX7; replace hb6 := hb6.ext hX7; replace hb10 := hb10.ext hX7; replace hZ := hZ.ext hX7; replace hM := hM.ext hX7; replace hV := hV.ext hX7; replace hL := hL.ext hX7)
            clear hX7 hX5 hP3 hg hB hX6 hb3
            obtain ⟨n4, hn4⟩ : ∃ n4, pg.length = n4 := ⟨_, rfl⟩
            rw [hn4] at hPg
            rw [hn4]
            have hcap := hPg.le
            have hn9 : n4 ≤ 9 := by omega
            have hn1 : 1 ≤ n4 := by omega
            by_cases h8 : 8 < pg.length
            · have hkh : khere h.Lists x = true := by
                cases e : khere h.Lists x with
                | true => rfl
                | false => rw [pagesAt_f e] at hpg; rw [← hpg] at h8; simp at h8
              obtain ⟨p0, hp0⟩ : ∃ p0, kpos h.Lists x = p0 := ⟨_, rfl⟩
              have hk0 : p0 < h.Lists.length := by rw [← hp0]; exact (khere_t hkh).1
              have hpa : pagesAt h.Lists x = h.Lists[p0].Pages := by
                rw [pagesAt_t hkh (by omega)]
                simp only [hp0]
              rw [hpa] at hpg hpgl
              have htk : ∀ j, j ≤ 4 → pg.take j = h.Lists[p0].Pages.take j := fun j hj => by rw [← hpg, List.take_append_of_le_length (by omega)]
              have hget : ∀ (j : Nat) (hj : j < pg.length) (hj' : j < h.Lists[p0].Pages.length), pg[j] = h.Lists[p0].Pages[j] := fun j hj hj' => by
                simp only [← hpg]
                exact List.getElem_append_left hj'
              have efr : freedOne h z0 z1 x pg (without h.Live a h.Live[k].Order) = ⟨[(backAll (z0, z1) ((pg.take 4).map pageB)).1, (backAll (z0, z1) ((pg.take 4).map pageB)).2], h.Mins, h.Cpus, setL h.Lists (withP x (pg.drop 4)), without h.Live a h.Live[k].Order⟩ := by
                unfold freedOne
                rw [if_pos h8]
              rw [efr]
              repeat' (first | (show CW _ _ _ _ _ _; first | refine CW.seq ?_ | refine CW.region ?_ | refine CW.block ?_ | refine CW.condd_t rfl (by omega) ?_) | (show Post _ _ _ _ _; refine Post.seq ?_) | refine SW.nil ?_ | refine SW.pure rfl rfl ?_ | (show SW _ _ _ _ (⟨_, Op.call ⟨.builtin .len, _, _⟩, _, _, _, none⟩ :: _) _ _; refine SW.st (st_len rfl) rfl ?_))
              refine CW.loop (fun t' : Nat × ZRow × ZRow => [(1, .int .i64 cpu), (2, .int .i64 a), (6, .pointer (some ⟨b6, 0, none⟩)), (10, .pointer (some ⟨b10, 0, none⟩)), (11, .int .i64 (zi : Int)), (12, .int .i64 t), (13, .slice A4 n4 c4), (14, .int .i64 (t'.1 : Int))])
                (fun t' w' => t'.1 ≤ 4 ∧ Ext w w' ∧ Blk w' b10 27 (encH ⟨⟨some ⟨g, 0, none⟩, 2, c⟩, m, cp, li, ⟨B, (without h.Live a h.Live[k].Order).length, cB⟩⟩) ∧ Blk w' b6 27 (encH .zero) ∧ ZsOwn w' w.heap.size g c t'.2.1 t'.2.2 (backAll (z0, z1) ((pg.take t'.1).map pageB)) ∧ Own w' w.heap.size 3 1 encI m.A m.n m.c h.Mins ∧ Own w' w.heap.size 86 3 encBk B (without h.Live a h.Live[k].Order).length cB (without h.Live a h.Live[k].Order) ∧ OwnLs w' w.heap.size li ls h.Lists ∧ Own w' w.heap.size 3 1 encI A4 n4 c4 pg) (fun t' => 4 - t'.1) (0, u0, u1)
                ⟨rfl, rfl, rfl, rfl, rfl, rfl, rfl, rfl, trivial⟩ ⟨by omega, hw, hb10, hb6, by simpa [backAll] using hZ, hM, hV, hL, hPg⟩ ?_
              clear hw hb6 hb10 hZ hM hV hL hPg hg10 hg6
              rintro ⟨j, u0, u1⟩ w' ⟨hj, hw, hb10, hb6, hZ, hM, hV, hL, hPg⟩
              simp only at hj hZ ⊢
              have hApp := hPg.sl.base
              by_cases hj4 : j < 4
              · have hjn : j < n4 := by omega
                have hjp : j < pg.length := by omega
                have hD := f.inv hk0 j (by omega)
                have hN := f.page hk0 (show j < h.Lists[p0].Pages.length by omega)
                have hbt : backAll (z0, z1) ((pg.take (j + 1)).map pageB) = backP (backAll (z0, z1) ((pg.take j).map pageB)) (pageB pg[j]) := by
                  rw [List.take_succ_eq_append_getElem hjp, List.map_append, backAll_append]; rfl
                rw [← htk j hj, ← hget j hjp (by omega)] at hN
                rw [← htk j hj] at hD
                repeat' (first | (show CW _ _ _ _ _ _; first | refine CW.seq ?_ | refine CW.region ?_ | refine CW.block ?_ | refine CW.condd_t rfl (by omega) ?_ | refine CW.skip ?_) | (show Post _ _ _ _ _; refine Post.seq ?_) | refine SW.nil ?_ | refine SW.pure rfl rfl ?_)
                refine CW.any 5 mixed (rb_tail (by kernel_rfl)) rfl fun w1 hw1 hRB => ?_
                replace hw := Ext.trans hw hw1; replace hb10 := hb10.ext hw1; replace hb6 := hb6.ext hw1; replace hZ := hZ.ext hw1; replace hM := hM.ext hw1; replace hV := hV.ext hw1; replace hL := hL.ext hw1; replace hPg := hPg.ext hw1; clear hw1
                refine SA.take 0 hRB rfl (by kernel_rfl) (by kernel_rfl) rfl ?_
                repeat ((show SW _ _ _ _ (⟨_, Op.load _ _, _, _, _, none⟩ :: _) _ _; refine SW.st (st_loads rfl rfl ((fun _ _ => hb10.cell))) rfl ?_))
                refine SW.tknil ?_
                refine SA.take 1 hRB rfl (by kernel_rfl) (by kernel_rfl) rfl ?_
                repeat (refine SW.pure rfl rfl ?_)
                refine SW.tknil ?_
                refine SA.take 2 hRB rfl (by kernel_rfl) (by kernel_rfl) rfl ?_
                repeat (refine SW.pure rfl rfl ?_)
                refine SW.tknil ?_
                refine SA.take 3 hRB rfl (by kernel_rfl) (by kernel_rfl) rfl ?_
                repeat ((show SW _ _ _ _ (⟨_, Op.indexAddr _ _ _, _, _, _, none⟩ :: _) _ _; refine SW.st (st_indexN rfl rfl (by assumption) (by omega)) rfl ?_))
                refine SW.tknil ?_
                refine SA.take 4 hRB rfl (by kernel_rfl) (by kernel_rfl) rfl ?_
                repeat ((show SW _ _ _ _ (⟨_, Op.load _ _, _, _, _, none⟩ :: _) _ _; refine SW.st (st_load rfl (hPg.sl.one hjn rfl)) rfl ?_))
                refine SW.tknil ?_
                refine SA.done (by kernel_rfl) ?_
                refine SW.callX rfl rfl (returned_ans m cp li ⟨B, (without h.Live a h.Live[k].Order).length, cB⟩ u0 u1 _ _ (pageB pg[j]) w.heap.size g c _ hZ hw.size hD hN) fun v w8 hv => ?_
                obtain ⟨rfl, hg, u2, u3, hZ'⟩ := hv
                have hG := hZ.gr hg
                replace hw := hw.own hZ.glo hg
                (replace hb10 := hb10.grT hG rfl; replace hb6 := hb6.grT hG rfl; replace hM := hM.grT hG rfl; replace hV := hV.grT hG rfl; replace hL := hL.grT hG rfl; replace hPg := hPg.grT hG rfl)
                refine SW.storeAgg hb10 rfl rfl rfl rfl (one_h ⟨⟨some ⟨g, 0, none⟩, 2, c⟩, m, cp, li, ⟨B, (without h.Live a h.Live[k].Order).length, cB⟩⟩) fun w9 hb10' hg' => ?_
                have hG' := hb10.gr hg'
                replace hw := hw.own hb10w hg'
                replace hb6 := hb6.grown hg' (by simpa using hne610)
                (replace hZ' := hZ'.grT hG' rfl; replace hM := hM.grT hG' rfl; replace hV := hV.grT hG' rfl; replace hL := hL.grT hG' rfl; replace hPg := hPg.grT hG' rfl)
                repeat' (first | (show CW _ _ _ _ _ _; refine CW.region ?_) | (show Post _ _ _ _ _; first | refine Post.seq ?_ | refine Post.blk ?_ | refine Post.np ?_) | refine SW.nil ?_ | refine SW.pure rfl rfl ?_ | (show SW _ _ _ _ (⟨_, Op.binOp _ _ _ _ _, _, _, _, none⟩ :: _) _ _; refine SW.st (st_add rfl rfl (by omega) (by omega)) rfl ?_))
                exact Post.again (j + 1, u2, u3) ⟨rfl, rfl, rfl, rfl, rfl, rfl, rfl, rfl, trivial⟩ (by simp only; omega) ⟨by simp only; omega, hw, hb10', hb6, by simp only; rw [hbt]; exact hZ', hM, hV, hL, hPg⟩
              · obtain rfl : j = 4 := by omega
                repeat' (first | (show CW _ _ _ _ _ _; first | refine CW.seq ?_ | refine CW.region ?_ | refine CW.condd_f rfl (by omega) ?_ | refine CW.exit ?_) | (show Post _ _ _ _ _; first | refine Post.seq ?_ | refine Post.seq_exit ?_ | refine Post.hit ?_ | refine Post.again_exit ?_) | refine SW.nil ?_ | refine SW.pure rfl rfl ?_ | (refine SW.st (st_sliceLo (k := 4) rfl rfl (by omega) (by omega)) rfl ?_))
                refine CW.any 6 mixed (rb_tail (by kernel_rfl)) rfl fun w1 hw1 hRB => ?_
                replace hw := Ext.trans hw hw1; replace hb10 := hb10.ext hw1; replace hb6 := hb6.ext hw1; replace hZ := hZ.ext hw1; replace hM := hM.ext hw1; replace hV := hV.ext hw1; replace hL := hL.ext hw1; replace hPg := hPg.ext hw1; clear hw1
                refine SA.take 0 hRB rfl (by kernel_rfl) (by kernel_rfl) rfl ?_
                repeat ((show SW _ _ _ _ (⟨_, Op.load _ _, _, _, _, none⟩ :: _) _ _; refine SW.st (st_loads rfl rfl ((fun _ _ => hb10.cell))) rfl ?_))
                refine SW.tknil ?_
                refine SA.take 1 hRB rfl (by kernel_rfl) (by kernel_rfl) rfl ?_
                repeat (refine SW.pure rfl rfl ?_)
                refine SW.tknil ?_
                refine SA.take 2 hRB rfl (by kernel_rfl) (by kernel_rfl) rfl ?_
                repeat (refine SW.pure rfl rfl ?_)
                refine SW.tknil ?_
                refine SA.take 3 hRB rfl (by kernel_rfl) (by kernel_rfl) rfl ?_
                repeat (refine SW.pure rfl rfl ?_)
                refine SW.tknil ?_
                refine SA.take 4 hRB rfl (by kernel_rfl) (by kernel_rfl) rfl ?_
                repeat (refine SW.pure rfl rfl ?_)
                refine SW.tknil ?_
                refine SA.one 5 rfl (by kernel_rfl) rfl ?_
                refine SW.call rfl rfl (words_ans _ _ _ _ _ (hPg.sl.drop 4 c4 (by omega) (by omega)) (by omega)) fun v w4 hXX hv => ?_
                obtain ⟨X, c4, rfl, hX⟩ := hv
                replace hX := hX.low hw.size
                (replace hw := Ext.trans hw hXX; replace hb10 := hb10.ext hXX; replace hb6 := hb6.ext hXX; replace hZ := hZ.ext hXX; replace hM := hM.ext hXX; replace hV := hV.ext hXX; replace hL := hL.ext hXX)
                refine SW.nil (Post.sa hXX ?_)
                refine SA.done (by kernel_rfl) ?_
                refine SW.call rfl rfl (setList_ans ⟨⟨some ⟨g, 0, none⟩, 2, c⟩, m, cp, li, ⟨B, (without h.Live a h.Live[k].Order).length, cB⟩⟩ h.Lists ls (withP x (pg.drop 4)) ⟨cpu, zi, t, ⟨X, (n4 - 4), c4⟩⟩ w.heap.size _ hL ⟨by rw [hx]; rfl, by rw [hx]; rfl, by rw [hx]; rfl, hX⟩ f.sorted hw.size (show 0 < (n4 - 4) by omega) (by simp only; omega)) fun v w5 hXX hv => ?_
                obtain ⟨s5, R5, rfl, hL5⟩ := hv
                (replace hw := Ext.trans hw hXX; replace hb10 := hb10.ext hXX; replace hb6 := hb6.ext hXX; replace hZ := hZ.ext hXX; replace hM := hM.ext hXX; replace hV := hV.ext hXX)
                refine SW.storeAgg hb6 rfl rfl rfl rfl (one_h ⟨⟨some ⟨g, 0, none⟩, 2, c⟩, m, cp, s5, ⟨B, (without h.Live a h.Live[k].Order).length, cB⟩⟩) fun w9 hR2 hg => ?_
                have hG := hb6.gr hg
                replace hw := hw.own hb6w hg
                (replace hZ := hZ.grT hG rfl; replace hM := hM.grT hG rfl; replace hV := hV.grT hG rfl; replace hL5 := hL5.grT hG rfl)
                repeat' (first | (show CW _ _ _ _ _ _; refine CW.ret ?_) | (show Post _ _ _ _ _; first | refine Post.seq ?_ | refine Post.np ?_) | refine SW.nil ?_ | refine SW.pure rfl rfl ?_)
                exact Post.ret2c rfl rfl rfl hR2 rfl ⟨_, rfl, hw, ⟨⟨some ⟨g, 0, none⟩, 2, c⟩, m, cp, s5, ⟨B, (without h.Live a h.Live[k].Order).length, cB⟩⟩, rfl, ⟨ecp, hM, hV, ⟨[u0, u1], ⟨hZ.row, All2.two hZ.z0 hZ.z1⟩⟩, ⟨R5, hL5⟩⟩⟩
            · have efr : freedOne h z0 z1 x pg (without h.Live a h.Live[k].Order) = ⟨[z0, z1], h.Mins, h.Cpus, setL h.Lists (withP x pg), without h.Live a h.Live[k].Order⟩ := by
                unfold freedOne
                rw [if_neg h8]
              rw [efr]
              repeat' (first | (show CW _ _ _ _ _ _; first | refine CW.seq ?_ | refine CW.region ?_ | refine CW.condd_f rfl (by omega) ?_ | refine CW.skip ?_) | (show Post _ _ _ _ _; refine Post.seq ?_) | refine SW.nil ?_ | refine SW.pure rfl rfl ?_ | (show SW _ _ _ _ (⟨_, Op.call ⟨.builtin .len, _, _⟩, _, _, _, none⟩ :: _) _ _; refine SW.st (st_len rfl) rfl ?_))
              refine CW.any 6 mixed (rb_tail (by kernel_rfl)) rfl fun w1 hw1 hRB => ?_
              replace hw := Ext.trans hw hw1; replace hb10 := hb10.ext hw1; replace hb6 := hb6.ext hw1; replace hZ := hZ.ext hw1; replace hM := hM.ext hw1; replace hV := hV.ext hw1; replace hL := hL.ext hw1; replace hPg := hPg.ext hw1; clear hw1
              refine SA.take 0 hRB rfl (by kernel_rfl) (by kernel_rfl) rfl ?_
              repeat ((show SW _ _ _ _ (⟨_, Op.load _ _, _, _, _, none⟩ :: _) _ _; refine SW.st (st_loads rfl rfl ((fun _ _ => hb10.cell))) rfl ?_))
              refine SW.tknil ?_
              refine SA.take 1 hRB rfl (by kernel_rfl) (by kernel_rfl) rfl ?_
              repeat (refine SW.pure rfl rfl ?_)
              refine SW.tknil ?_
              refine SA.take 2 hRB rfl (by kernel_rfl) (by kernel_rfl) rfl ?_
              repeat (refine SW.pure rfl rfl ?_)
              refine SW.tknil ?_
              refine SA.take 3 hRB rfl (by kernel_rfl) (by kernel_rfl) rfl ?_
              repeat (refine SW.pure rfl rfl ?_)
              refine SW.tknil ?_
              refine SA.take 4 hRB rfl (by kernel_rfl) (by kernel_rfl) rfl ?_
              repeat (refine SW.pure rfl rfl ?_)
              refine SW.tknil ?_
              refine SA.one 5 rfl (by kernel_rfl) rfl ?_
              refine SW.call rfl rfl (words_ans _ _ _ _ _ (hPg.sl) (by omega)) fun v w4 hXX hv => ?_
              obtain ⟨X, c4, rfl, hX⟩ := hv
              replace hX := hX.low hw.size
              (replace hw := Ext.trans hw hXX; replace hb10 := hb10.ext hXX; replace hb6 := hb6.ext hXX; replace hZ := hZ.ext hXX; replace hM := hM.ext hXX; replace hV := hV.ext hXX; replace hL := hL.ext hXX)
              refine SW.nil (Post.sa hXX ?_)
              refine SA.done (by kernel_rfl) ?_
              refine SW.call rfl rfl (setList_ans ⟨⟨some ⟨g, 0, none⟩, 2, c⟩, m, cp, li, ⟨B, (without h.Live a h.Live[k].Order).length, cB⟩⟩ h.Lists ls (withP x pg) ⟨cpu, zi, t, ⟨X, n4, c4⟩⟩ w.heap.size _ hL ⟨by rw [hx]; rfl, by rw [hx]; rfl, by rw [hx]; rfl, hX⟩ f.sorted hw.size (show 0 < n4 by omega) (by simp only; omega)) fun v w5 hXX hv => ?_
              obtain ⟨s5, R5, rfl, hL5⟩ := hv
              (replace hw := Ext.trans hw hXX; replace hb10 := hb10.ext hXX; replace hb6 := hb6.ext hXX; replace hZ := hZ.ext hXX; replace hM := hM.ext hXX; replace hV := hV.ext hXX)
              refine SW.storeAgg hb6 rfl rfl rfl rfl (one_h ⟨⟨some ⟨g, 0, none⟩, 2, c⟩, m, cp, s5, ⟨B, (without h.Live a h.Live[k].Order).length, cB⟩⟩) fun w9 hR2 hg => ?_
              have hG := hb6.gr hg
              replace hw := hw.own hb6w hg
              (replace hZ := hZ.grT hG rfl; replace hM := hM.grT hG rfl; replace hV := hV.grT hG rfl; replace hL5 := hL5.grT hG rfl)
              repeat' (first | (show CW _ _ _ _ _ _; refine CW.ret ?_) | (show Post _ _ _ _ _; first | refine Post.seq ?_ | refine Post.np ?_) | refine SW.nil ?_ | refine SW.pure rfl rfl ?_)
              exact Post.ret2c rfl rfl rfl hR2 rfl ⟨_, rfl, hw, ⟨⟨some ⟨g, 0, none⟩, 2, c⟩, m, cp, s5, ⟨B, (without h.Live a h.Live[k].Order).length, cB⟩⟩, rfl, ⟨ecp, hM, hV, ⟨[u0, u1], ⟨hZ.row, All2.two hZ.z0 hZ.z1⟩⟩, ⟨R5, hL5⟩⟩⟩
    · rw [freeV_1 hq hc]
      repeat' (first | (show CW _ _ _ _ _ _; first | refine CW.seq ?_ | refine CW.region ?_ | refine CW.condn_t rfl (by omega) ?_ | refine CW.condf rfl ?_ | refine CW.skip ?_) | (show Post _ _ _ _ _; refine Post.seq ?_) | refine SW.nil ?_ | refine SW.pure rfl rfl ?_ | (show SW _ _ _ _ (⟨_, Op.fieldAddr _ _ _, _, _, _, none⟩ :: _) _ _; refine SW.st (st_field rfl) rfl ?_) | (show SW _ _ _ _ (⟨_, Op.build _ _, _, _, _, none⟩ :: _) _ _; refine SW.st (st_build rfl rfl) rfl ?_) | (show SW _ _ _ _ (⟨_, Op.binOp _ _ _ _ _, _, _, _, none⟩ :: _) _ _; refine SW.st (st_sub rfl rfl (by omega) (by omega)) rfl ?_) | (show SW _ _ _ _ (⟨_, Op.load _ _, _, _, _, none⟩ :: _) _ _; first | refine SW.st (st_loads rfl rfl ((fun _ _ => hb3.cell))) rfl ?_ | refine SW.st (st_load rfl (hb3.cell (i := 2) (v := .int .i64 r.Cpus) rfl)) rfl ?_) | (show SW _ _ _ _ (⟨_, Op.call ⟨.value (.func _), _, _⟩, _, _, _, none⟩ :: _) _ _; first | (refine SW.call rfl rfl (c1 _ hw) ?_; intro v w1 hw1 hv; subst hv; replace hw := Ext.trans hw hw1; replace hb3 := hb3.ext hw1; replace hb6 := hb6.ext hw1; clear hw1) | (refine SW.call rfl rfl (In_ans _ _ _ _) ?_; intro v w1 hw1 hv; subst hv; replace hw := Ext.trans hw hw1; replace hb3 := hb3.ext hw1; replace hb6 := hb6.ext hw1; clear hw1)))
      all_goals first | (exfalso; omega) | skip
      all_goals
        refine SW.storeAgg hb6 rfl rfl rfl rfl (one_h .zero) fun w5 hR2 hg => ?_
        replace hw := hw.own hb6w hg
        repeat' (first | (show CW _ _ _ _ _ _; refine CW.ret ?_) | (show Post _ _ _ _ _; first | refine Post.seq ?_ | refine Post.seq_ret ?_) | refine SW.nil ?_ | refine SW.pure rfl rfl ?_)
        exact Post.ret2c rfl rfl rfl hR2 rfl ⟨_, rfl, hw, HeapOut.zero 1 _ _⟩
end Go.Proofs.Ytfdmgflboibdoaa

/-
  Contracts: sameHeap; the law PagesCopies.
-/
set_option linter.unusedVariables false
namespace Go.Proofs.Ytfdmgflboibdoaa
open Go.RowKit

set_option maxHeartbeats 4000000 in
theorem sameHeap_ans (r s : HRow) (h : Heap) (w : World) (ha : RdH w r h) (hb : RdH w s h) (hs : h.small) :
    Ans Try.prog 24 [.agg (encH r).toArray, .agg (encH s).toArray] w fun v _ => v = .bool true := by
  refine ans_of Try.func24 rfl Try.ntmps24 rfl ?_
  refine CW.seq (CW.region (SW.box rfl rfl fun b2 w1 hw hb2b hb2 => ?_))
  refine SW.box rfl rfl fun b3 w2 hw2 hb3b hb3 => ?_
  (replace hw := Ext.trans hw hw2; replace hb2 := hb2.ext hw2)
  obtain ⟨zs, hz⟩ := ha.zones
  obtain ⟨ls, hl⟩ := ha.lists
  obtain ⟨zs', hz'⟩ := hb.zones
  obtain ⟨ls', hl'⟩ := hb.lists
  obtain ⟨z1, z2⟩ := hz.len
  obtain ⟨l1, l2⟩ := hl.len
  obtain ⟨z3, z4⟩ := hz'.len
  obtain ⟨l3, l4⟩ := hl'.len
  have s1 := hs.mins
  have s2 := hs.live
  have s3 := hs.zones
  have s4 := hs.lists
  have m1 := ha.mins.len
  have m2 := ha.live.len
  have e1 := ha.cpus
  have e2 := hb.cpus
  have cM : ∀ w', Ext w w' → Ans Try.prog 70 [.slice r.Mins.A r.Mins.n r.Mins.c, .slice s.Mins.A s.Mins.n s.Mins.c] w' fun v _ => v = .bool true := fun w' hx => by
    have := sameInts_ans _ _ _ _ r.Mins.c s.Mins.c _ _ w' (ha.mins.ext hx) (hb.mins.ext hx) (by omega)
    simpa using this
  have cL : ∀ w', Ext w w' → Ans Try.prog 71 [.slice r.Live.A r.Live.n r.Live.c, .slice s.Live.A s.Live.n s.Live.c] w' fun v _ => v = .bool true := fun w' hx => by
    have := sameBlocks_ans _ _ _ _ r.Live.c s.Live.c _ _ w' (ha.live.ext hx) (hb.live.ext hx) (by omega)
    simpa using this
  repeat' (first | (show CW _ _ _ _ _ _; first | refine CW.seq ?_ | refine CW.region ?_ | refine CW.block ?_ | refine CW.condf rfl ?_ | refine CW.skip ?_) | (show Post _ _ _ _ _; refine Post.seq ?_) | refine SW.nil ?_ | (show SW _ _ _ _ (⟨_, _, _, _, _, some _⟩ :: _) _ _; first | refine SW.want_f rfl rfl (by with_reducible rfl) ?_ | refine SW.splitn_f rfl rfl rfl (by omega) ?_ | refine SW.want rfl rfl ?_) | refine SW.pure rfl rfl ?_ | (show SW _ _ _ _ (⟨_, Op.fieldAddr _ _ _, _, _, _, none⟩ :: _) _ _; refine SW.st (st_field rfl) rfl ?_) | (show SW _ _ _ _ (⟨_, Op.call ⟨.builtin .len, _, _⟩, _, _, _, none⟩ :: _) _ _; refine SW.st (st_len rfl) rfl ?_) | (show SW _ _ _ _ (⟨_, Op.load _ _, _, _, _, none⟩ :: _) _ _; first | refine SW.st (st_load rfl (hb2.cell rfl)) rfl ?_ | refine SW.st (st_load rfl (hb3.cell rfl)) rfl ?_) | (show SW _ _ _ _ (⟨_, Op.call ⟨.value (.func _), _, _⟩, _, _, _, none⟩ :: _) _ _; first | (refine SW.call rfl rfl (cM _ hw) ?_; intro v w1 hw1 hv; subst hv; replace hw := Ext.trans hw hw1; replace hb2 := hb2.ext hw1; replace hb3 := hb3.ext hw1; clear hw1) | (refine SW.call rfl rfl (cL _ hw) ?_; intro v w1 hw1 hv; subst hv; replace hw := Ext.trans hw hw1; replace hb2 := hb2.ext hw1; replace hb3 := hb3.ext hw1; clear hw1)))
  all_goals first | (exfalso; omega) | skip
  refine CW.loop (fun k : Nat => [(2, .pointer (some ⟨b2, 0, none⟩)), (3, .pointer (some ⟨b3, 0, none⟩)), (5, .int .i64 (k : Int))]) (fun k w' => k ≤ r.Zones.n ∧ Ext w w' ∧ Blk w' b2 27 (encH r) ∧ Blk w' b3 27 (encH s)) (fun k => r.Zones.n - k) 0
    ⟨rfl, rfl, rfl, trivial⟩ ⟨by omega, hw, hb2, hb3⟩ ?_
  clear hw hb2 hb3
  rintro k w' ⟨hk, hw, hb2, hb3⟩
  have hA := hz.row.base
  have hB := hz'.row.base
  by_cases hkn : k < r.Zones.n
  · have hkn' : k < s.Zones.n := by omega
    have hzk := hz.each.get k (by omega) (by omega)
    have hzk' := hz'.each.get k (by omega) (by omega)
    have q := hs.free _ (List.getElem_mem (show k < h.Zones.length by omega))
    have q1 := hzk.free.len
    have q2 := hzk.types.len
    have cZ : ∀ w', Ext w w' → Ans Try.prog 50 [.agg (encZ zs[k]).toArray, .agg (encZ zs'[k]).toArray] w' fun v _ => v = .bool true := fun w' hx => by
      have := sameZone_ans zs[k] zs'[k] _ _ w' (hzk.ext hx) (hzk'.ext hx) (by omega) (by omega)
      simpa using this
    repeat' (first | (show CW _ _ _ _ _ _; first | refine CW.seq ?_ | refine CW.region ?_ | refine CW.block ?_ | refine CW.condd_t rfl (by omega) ?_ | refine CW.condf rfl ?_ | refine CW.skip ?_ | (apply CW.quiet1 mixed; (· kernel_rfl); rotate_left; intro w1 hw1; replace hw := Ext.trans hw hw1; replace hb2 := hb2.ext hw1; replace hb3 := hb3.ext hw1; clear hw1; rotate_right)) | (show Post _ _ _ _ _; first | refine Post.seq ?_ | refine Post.blk ?_) | refine SW.nil ?_ | refine SW.pure rfl rfl ?_ | (show SW _ _ _ _ (⟨_, Op.fieldAddr _ _ _, _, _, _, none⟩ :: _) _ _; refine SW.st (st_field rfl) rfl ?_) | (show SW _ _ _ _ (⟨_, Op.binOp _ _ _ _ _, _, _, _, none⟩ :: _) _ _; refine SW.st (st_add rfl rfl (by omega) (by omega)) rfl ?_) | (show SW _ _ _ _ (⟨_, Op.indexAddr _ _ _, _, _, _, none⟩ :: _) _ _; refine SW.st (st_indexN rfl rfl (by assumption) (by omega)) rfl ?_) | (show SW _ _ _ _ (⟨_, Op.call ⟨.builtin .len, _, _⟩, _, _, _, none⟩ :: _) _ _; refine SW.st (st_len rfl) rfl ?_) | (show SW _ _ _ _ (⟨_, Op.load _ _, _, _, _, none⟩ :: _) _ _; first | refine SW.st (st_load rfl (hb2.cell rfl)) rfl ?_ | refine SW.st (st_load rfl (hb3.cell rfl)) rfl ?_ | refine SW.st (st_loadsx hw rfl rfl ((hz.row.all hkn))) rfl ?_ | refine SW.st (st_loadsx hw rfl rfl ((hz'.row.all hkn'))) rfl ?_) | (show SW _ _ _ _ (⟨_, Op.call ⟨.value (.func _), _, _⟩, _, _, _, none⟩ :: _) _ _; refine SW.qcall rfl rfl (fun w1 hw1 => (cZ _ (Ext.trans hw hw1))) ?_) | exact SW.qnil rfl)
    exact Post.again (k + 1) ⟨rfl, rfl, rfl, trivial⟩ (by omega) ⟨by omega, hw, hb2, hb3⟩
  · repeat' (first | (show CW _ _ _ _ _ _; first | refine CW.seq ?_ | refine CW.region ?_ | refine CW.block ?_ | refine CW.condd_f rfl (by omega) ?_ | refine CW.exit ?_) | (show Post _ _ _ _ _; first | refine Post.seq ?_ | refine Post.seq_exit ?_ | refine Post.hit ?_ | refine Post.again_exit ?_) | refine SW.nil ?_ | refine SW.pure rfl rfl ?_ | (show SW _ _ _ _ (⟨_, Op.fieldAddr _ _ _, _, _, _, none⟩ :: _) _ _; refine SW.st (st_field rfl) rfl ?_) | (show SW _ _ _ _ (⟨_, Op.call ⟨.builtin .len, _, _⟩, _, _, _, none⟩ :: _) _ _; refine SW.st (st_len rfl) rfl ?_) | (show SW _ _ _ _ (⟨_, Op.load _ _, _, _, _, none⟩ :: _) _ _; refine SW.st (st_load rfl (hb2.cell rfl)) rfl ?_))
    clear hkn hk hA hB
    refine CW.loop (fun k : Nat => [(2, .pointer (some ⟨b2, 0, none⟩)), (3, .pointer (some ⟨b3, 0, none⟩)), (6, .int .i64 (k : Int))]) (fun k w' => k ≤ r.Lists.n ∧ Ext w w' ∧ Blk w' b2 27 (encH r) ∧ Blk w' b3 27 (encH s)) (fun k => r.Lists.n - k) 0
      ⟨rfl, rfl, rfl, trivial⟩ ⟨by omega, hw, hb2, hb3⟩ ?_
    clear hw hb2 hb3
    rintro k w' ⟨hk, hw, hb2, hb3⟩
    have hA := hl.row.base
    have hB := hl'.row.base
    by_cases hkn : k < r.Lists.n
    · have hkn' : k < s.Lists.n := by omega
      have hlk := hl.each.get k (by omega) (by omega)
      have hlk' := hl'.each.get k (by omega) (by omega)
      have q := hs.pages _ (List.getElem_mem (show k < h.Lists.length by omega))
      have q1 := hlk.pages.len
      have g1 := hlk.cpu
      have g2 := hlk.zone
      have g3 := hlk.ty
      have g4 := hlk'.cpu
      have g5 := hlk'.zone
      have g6 := hlk'.ty
      have cP : ∀ w', Ext w w' → Ans Try.prog 70 [.slice ls[k].Pages.A ls[k].Pages.n ls[k].Pages.c, .slice ls'[k].Pages.A ls'[k].Pages.n ls'[k].Pages.c] w' fun v _ => v = .bool true := fun w' hx => by
        have := sameInts_ans _ _ _ _ ls[k].Pages.c ls'[k].Pages.c _ _ w' (hlk.pages.ext hx) (hlk'.pages.ext hx) (by omega)
        simpa using this
      repeat' (first | (show CW _ _ _ _ _ _; first | refine CW.seq ?_ | refine CW.region ?_ | refine CW.block ?_ | refine CW.condd_t rfl (by omega) ?_ | refine CW.skip ?_) | (show Post _ _ _ _ _; refine Post.seq ?_) | refine SW.nil ?_ | refine SW.pure rfl rfl ?_ | (show SW _ _ _ _ (⟨_, Op.fieldAddr _ _ _, _, _, _, none⟩ :: _) _ _; refine SW.st (st_field rfl) rfl ?_) | (show SW _ _ _ _ (⟨_, Op.indexAddr _ _ _, _, _, _, none⟩ :: _) _ _; refine SW.st (st_indexN rfl rfl (by assumption) (by omega)) rfl ?_) | (show SW _ _ _ _ (⟨_, Op.call ⟨.builtin .len, _, _⟩, _, _, _, none⟩ :: _) _ _; refine SW.st (st_len rfl) rfl ?_) | (show SW _ _ _ _ (⟨_, Op.load _ _, _, _, _, none⟩ :: _) _ _; first | refine SW.st (st_load rfl (hb2.cell rfl)) rfl ?_ | refine SW.st (st_loadsx hw rfl rfl ((hl.row.all hkn))) rfl ?_))
      refine SW.alloc rfl fun b7 w1 hw1 hb7b hb7 => ?_
      skip
      refine SW.storeAgg hb7 rfl rfl rfl rfl (one_l _) fun w2 hb7' hg => ?_
      have hXX := hw1.own hb7b hg
      have hb7w : w.heap.size ≤ b7 := Nat.le_trans hw.size hb7b
      replace hw := Ext.trans hw hXX
      replace hb2 := hb2.ext hXX
      replace hb3 := hb3.ext hXX
      replace hb7 := hb7'
      clear hb7' hw1 hg hXX
      repeat' (first | (show CW _ _ _ _ _ _; first | refine CW.seq ?_ | refine CW.region ?_) | (show Post _ _ _ _ _; refine Post.seq ?_) | refine SW.nil ?_ | refine SW.pure rfl rfl ?_ | (show SW _ _ _ _ (⟨_, Op.fieldAddr _ _ _, _, _, _, none⟩ :: _) _ _; refine SW.st (st_field rfl) rfl ?_) | (show SW _ _ _ _ (⟨_, Op.indexAddr _ _ _, _, _, _, none⟩ :: _) _ _; refine SW.st (st_indexN rfl rfl (by assumption) (by omega)) rfl ?_) | (show SW _ _ _ _ (⟨_, Op.load _ _, _, _, _, none⟩ :: _) _ _; first | refine SW.st (st_load rfl (hb3.cell rfl)) rfl ?_ | refine SW.st (st_loadsx hw rfl rfl ((hl'.row.all hkn'))) rfl ?_))
      refine SW.alloc rfl fun b8 w1 hw1 hb8b hb8 => ?_
      skip
      refine SW.storeAgg hb8 rfl rfl rfl rfl (one_l _) fun w2 hb8' hg => ?_
      have hXX := hw1.own hb8b hg
      have hb8w : w.heap.size ≤ b8 := Nat.le_trans hw.size hb8b
      replace hw := Ext.trans hw hXX
      replace hb2 := hb2.ext hXX
      replace hb3 := hb3.ext hXX
      replace hb7 := hb7.ext hXX
      replace hb8 := hb8'
      clear hb8' hw1 hg hXX
      repeat' (first | (show CW _ _ _ _ _ _; first | refine CW.seq ?_ | refine CW.region ?_ | refine CW.condf rfl ?_ | refine CW.skip ?_) | (show Post _ _ _ _ _; first | refine Post.seq ?_ | refine Post.blk ?_) | refine SW.nil ?_ | (show SW _ _ _ _ (⟨_, _, _, _, _, some _⟩ :: _) _ _; first | refine SW.want_f rfl rfl (by with_reducible rfl) ?_ | refine SW.splitn_f rfl rfl rfl (by omega) ?_) | refine SW.pure rfl rfl ?_ | (show SW _ _ _ _ (⟨_, Op.fieldAddr _ _ _, _, _, _, none⟩ :: _) _ _; refine SW.st (st_field rfl) rfl ?_) | (show SW _ _ _ _ (⟨_, Op.binOp _ _ _ _ _, _, _, _, none⟩ :: _) _ _; refine SW.st (st_add rfl rfl (by omega) (by omega)) rfl ?_) | (show SW _ _ _ _ (⟨_, Op.load _ _, _, _, _, none⟩ :: _) _ _; first | refine SW.st (st_load rfl (hb7.cell rfl)) rfl ?_ | refine SW.st (st_load rfl (hb8.cell rfl)) rfl ?_) | (show SW _ _ _ _ (⟨_, Op.call ⟨.value (.func _), _, _⟩, _, _, _, none⟩ :: _) _ _; (refine SW.call rfl rfl (cP _ hw) ?_; intro v w1 hw1 hv; subst hv; replace hw := Ext.trans hw hw1; replace hb2 := hb2.ext hw1; replace hb3 := hb3.ext hw1; clear hw1)))
      all_goals first | (exfalso; omega) | skip
      exact Post.again (k + 1) ⟨rfl, rfl, rfl, trivial⟩ (by omega) ⟨by omega, hw, hb2, hb3⟩
    · repeat' (first | (show CW _ _ _ _ _ _; first | refine CW.seq ?_ | refine CW.region ?_ | refine CW.condd_f rfl (by omega) ?_ | refine CW.ret ?_ | refine CW.exit ?_) | (show Post _ _ _ _ _; first | refine Post.seq ?_ | refine Post.seq_exit ?_ | refine Post.hit ?_ | refine Post.again_exit ?_) | refine SW.nil ?_ | refine SW.pure rfl rfl ?_ | (show SW _ _ _ _ (⟨_, Op.fieldAddr _ _ _, _, _, _, none⟩ :: _) _ _; refine SW.st (st_field rfl) rfl ?_) | (show SW _ _ _ _ (⟨_, Op.call ⟨.builtin .len, _, _⟩, _, _, _, none⟩ :: _) _ _; refine SW.st (st_len rfl) rfl ?_) | (show SW _ _ _ _ (⟨_, Op.load _ _, _, _, _, none⟩ :: _) _ _; refine SW.st (st_load rfl (hb2.cell rfl)) rfl ?_))
      exact Post.ret1 rfl rfl ⟨_, rfl, hw, rfl⟩

theorem pagesCopies_ans (r : HRow) (h : Heap) (w : World) (hr : RdH w r h) (hs : h.small) : Ans Try.prog 3 [.agg (encH r).toArray] w fun v _ => v = .bool true := by
  refine ans_of Try.func3 rfl Try.ntmps3 rfl ?_
  refine CW.seq (CW.region (SW.box rfl rfl fun b1 w1 hw hb1b hb1 => ?_))
  repeat' (first | (show CW _ _ _ _ _ _; first | refine CW.seq ?_ | refine CW.region ?_) | (show Post _ _ _ _ _; refine Post.seq ?_) | refine SW.nil ?_ | refine SW.pure rfl rfl ?_ | (show SW _ _ _ _ (⟨_, Op.load _ _, _, _, _, none⟩ :: _) _ _; refine SW.st (st_loads rfl rfl ((fun _ _ => hb1.cell))) rfl ?_))
  refine SW.call rfl rfl (Hcopy_ans _ _ _ (hr.ext hw) hs) fun v w2 hw2 hv => ?_
  obtain ⟨s, rfl, hO⟩ := hv
  replace hO := hO.low hw.size
  (replace hw := Ext.trans hw hw2; replace hb1 := hb1.ext hw2)
  refine SW.alloc rfl fun b3 w1 hw1 hb3b hb3 => ?_
  skip
  refine SW.storeAgg hb3 rfl rfl rfl rfl (one_h _) fun w2 hb3' hg => ?_
  have hXX := hw1.own hb3b hg
  have hb3w : w.heap.size ≤ b3 := Nat.le_trans hw.size hb3b
  replace hw := Ext.trans hw hXX
  replace hb1 := hb1.ext hXX
  replace hO := hO.ext hXX
  replace hb3 := hb3'
  clear hb3' hw1 hg hXX
  have cS : ∀ w', Ext w w' → RdH w' s h → Ans Try.prog 24 [.agg (encH s).toArray, .agg (encH r).toArray] w' fun v _ => v = .bool true := fun w' hx h1 => sameHeap_ans s r h w' h1 (hr.ext hx) hs
  repeat' (first | (show CW _ _ _ _ _ _; first | refine CW.seq ?_ | refine CW.region ?_ | refine CW.ret ?_) | (show Post _ _ _ _ _; refine Post.seq ?_) | refine SW.nil ?_ | refine SW.pure rfl rfl ?_ | (show SW _ _ _ _ (⟨_, Op.load _ _, _, _, _, none⟩ :: _) _ _; first | refine SW.st (st_loads rfl rfl ((fun _ _ => hb3.cell))) rfl ?_ | refine SW.st (st_loads rfl rfl ((fun _ _ => hb1.cell))) rfl ?_) | (show SW _ _ _ _ (⟨_, Op.call ⟨.value (.func _), _, _⟩, _, _, _, none⟩ :: _) _ _; (refine SW.call rfl rfl (cS _ hw hO.rd) ?_; intro v w1 hw1 hv; subst hv; replace hw := Ext.trans hw hw1; replace hb1 := hb1.ext hw1; replace hb3 := hb3.ext hw1; replace hO := hO.ext hw1; clear hw1)))
  exact Post.ret1 rfl rfl ⟨_, rfl, hw, rfl⟩
end Go.Proofs.Ytfdmgflboibdoaa
