/-
  Contracts: pages.drain; emptied of the reference.
-/
import Derived.Test.YtfdmgflboibdoaaQ3
import Derived.Test.YtfdmgflboibdoaaQ4
import Derived.Test.YtfdmgflboibdoaaM2
set_option linter.unusedVariables false
set_option linter.unusedSimpArgs false
namespace Go.Proofs.Ytfdmgflboibdoaa
open Go.RowKit

/-- what of a heap of the call's own is not its zones -/
structure RestH (w : World) (lo : Nat) (m li lv : Sli) (ls : List LRow) (h : Heap) : Prop where
  mins : Own w lo 3 1 encI m.A m.n m.c h.Mins
  live : Own w lo 86 3 encBk lv.A lv.n lv.c h.Live
  lists : OwnLs w lo li ls h.Lists
section
variable {w w' : World} {lo t : Nat} {m li lv : Sli} {ls : List LRow} {h : Heap}
theorem RestH.ext (a : RestH w lo m li lv ls h) (hx : Ext w w') : RestH w' lo m li lv ls h := ⟨a.mins.ext hx, a.live.ext hx, a.lists.ext hx⟩
theorem RestH.grT (a : RestH w lo m li lv ls h) (hG : GrT w w' t) (hne : (Nat.beq t 3 || (Nat.beq t 86 || Nat.beq t 88)) = false) : RestH w' lo m li lv ls h := by
  simp only [Bool.or_eq_false_iff] at hne
  obtain ⟨h1, h2, h3⟩ := hne
  exact ⟨a.mins.grT hG h1, a.live.grT hG h2, a.lists.grT hG (by simp [h1, h3])⟩
theorem OwnH.split {r : HRow} (a : OwnH w lo r h) {z0 z1 : Zone} (hz : h.Zones = [z0, z1]) : ∃ g c u0 u1 ls, r.Zones = ⟨some ⟨g, 0, none⟩, 2, c⟩ ∧ ZsOwn w lo g c u0 u1 (z0, z1) ∧ RestH w lo r.Mins r.Lists r.Live ls h := by
  obtain ⟨zs, hzs⟩ := a.zones
  obtain ⟨ls, hls⟩ := a.lists
  have l0 := hzs.each.len
  rw [hz] at l0
  obtain ⟨u0, u1, rfl⟩ := two_of (show zs.length = 2 from l0)
  have l1 := hzs.row.len
  have h0 := hzs.each.get 0 (by simp) (by simp [hz])
  have h1 := hzs.each.get 1 (by simp) (by simp [hz])
  simp only [hz] at h0 h1
  have hc : 0 < r.Zones.c := by have := hzs.row.le; simp at l1; omega
  obtain ⟨g, rest, hA, hlo, _⟩ := hzs.row.opened hc
  refine ⟨g, r.Zones.c, u0, u1, ls, ?_, ⟨?_, h0, h1, hlo, hc⟩, ⟨a.mins, a.live, hls⟩⟩
  · rw [← hA]
    have : (2 : Nat) = r.Zones.n := l1
    rw [this]
  · have := hzs.row
    rw [hA, ← l1] at this
    exact this
theorem RestH.join (a : RestH w lo m li lv ls h) {g c : Nat} {u0 u1 : ZRow} {s : Zone × Zone} (hZ : ZsOwn w lo g c u0 u1 s) {cp : Int} (hc : cp = h.Cpus) : OwnH w lo ⟨⟨some ⟨g, 0, none⟩, 2, c⟩, m, cp, .nil, lv⟩ ⟨[s.1, s.2], h.Mins, h.Cpus, [], h.Live⟩ :=
  ⟨hc, a.mins, a.live, ⟨[u0, u1], ⟨hZ.row, All2.snoc (All2.snoc All2.nil hZ.z0) hZ.z1⟩⟩, ⟨[], .nil _ _⟩⟩
end

/-- since the world w0 only the blocks g and b of those that stood were changed -/
structure G2 (w0 w : World) (g b : Nat) : Prop where
  os : w.os = w0.os
  tape : w.tape = w0.tape
  output : w.output = w0.output
  size : w0.heap.size ≤ w.heap.size
  block : ∀ k, k < w0.heap.size → k ≠ g → k ≠ b → w.heap[k]? = w0.heap[k]?
section
variable {w0 w w' : World} {g b k t : Nat} {cs : List Value}
theorem G2.refl (w : World) (g b : Nat) : G2 w w g b := ⟨rfl, rfl, rfl, Nat.le_refl _, fun _ _ _ _ => rfl⟩
theorem G2.step (h : G2 w0 w g b) {row : Option Nat} (hg : w.grownBy w' row) (hr : ∀ k, row = some k → k = g ∨ k = b ∨ w0.heap.size ≤ k) : G2 w0 w' g b :=
  ⟨hg.os.trans h.os, hg.tape.trans h.tape, hg.output.trans h.output, Nat.le_trans h.size hg.size, fun k hk h1 h2 => by
    rw [hg.block k (Nat.lt_of_lt_of_le hk h.size) (fun e => by rcases hr k e.symm with e | e | e <;> omega)]
    exact h.block k hk h1 h2⟩
theorem G2.ext (h : G2 w0 w g b) (hx : Ext w w') : G2 w0 w' g b := h.step (hx.gr none) (fun k e => by cases e)
theorem G2.at_g (h : G2 w0 w g b) (hg : w.grownBy w' (some g)) : G2 w0 w' g b := h.step hg (fun k e => by cases e; exact .inl rfl)
theorem G2.at_b (h : G2 w0 w g b) (hg : w.grownBy w' (some b)) : G2 w0 w' g b := h.step hg (fun k e => by cases e; exact .inr (.inl rfl))
theorem G2.new (h : G2 w0 w g b) (hg : w.grownBy w' (some k)) (hk : w0.heap.size ≤ k) : G2 w0 w' g b := h.step hg (fun i e => by cases e; exact .inr (.inr hk))
theorem G2.blk (h : G2 w0 w g b) (hB : Blk w0 k t cs) (h1 : k ≠ g) (h2 : k ≠ b) : Blk w k t cs := (h.block k hB.lt h1 h2).trans hB
end

/-- the zones after so many pages -/
noncomputable def backTo (h : Heap) (z0 z1 : Zone) (k : Nat) : Zone × Zone := backAll (z0, z1) ((pagesB h.Lists).take k)

set_option maxHeartbeats 2000000 in
theorem drain_ans (h : Heap) (z0 z1 : Zone) (hd : DHeap h z0 z1) (hs : h.small) (m : Sli) (cp : Int) (li lv : Sli) (ls : List LRow) (u0 u1 : ZRow) (g c b1 lo : Nat) (w w0 : World) (hw : Ext w w0) (hlo : w.heap.size ≤ lo) (hlw : lo ≤ w0.heap.size) (hb1w : lo ≤ b1)
    (hb1 : Blk w0 b1 27 (encH ⟨⟨some ⟨g, 0, none⟩, 2, c⟩, m, cp, li, lv⟩)) (hZ : ZsOwn w0 lo g c u0 u1 (z0, z1)) (hR : RestH w0 lo m li lv ls h) :
    AnsX Try.prog 123 [.pointer (some ⟨b1, 0, none⟩)] w0 fun v w' => Ext w w' ∧ G2 w0 w' g b1 ∧ Blk w' b1 27 (encH ⟨⟨some ⟨g, 0, none⟩, 2, c⟩, m, cp, .nil, lv⟩) ∧ RestH w' lo m li lv ls h ∧ ∃ u0 u1, ZsOwn w' lo g c u0 u1 (backAll (z0, z1) (pagesB h.Lists)) := by
  refine ansx_of Try.func123 rfl Try.ntmps123 rfl ?_
  have hgw : w.heap.size ≤ g := Nat.le_trans hlo hZ.glo
  have hbw : w.heap.size ≤ b1 := Nat.le_trans hlo hb1w
  have hE := G2.refl w0 g b1
  have hll := hR.lists.rd.len
  have s4 := hs.lists
  have hA0 := hR.lists.row.sl.base
  repeat' (first | (show CW _ _ _ _ _ _; first | refine CW.seq ?_ | refine CW.region ?_ | refine CW.block ?_) | (show Post _ _ _ _ _; refine Post.seq ?_) | refine SW.nil ?_ | refine SW.pure rfl rfl ?_ | (show SW _ _ _ _ (⟨_, Op.fieldAddr _ _ _, _, _, _, none⟩ :: _) _ _; refine SW.st (st_field rfl) rfl ?_) | (show SW _ _ _ _ (⟨_, Op.nilCheck _, _, _, _, none⟩ :: _) _ _; refine SW.st (st_nilCheck rfl) rfl ?_) | (show SW _ _ _ _ (⟨_, Op.call ⟨.builtin .len, _, _⟩, _, _, _, none⟩ :: _) _ _; refine SW.st (st_len rfl) rfl ?_) | (show SW _ _ _ _ (⟨_, Op.load _ _, _, _, _, none⟩ :: _) _ _; refine SW.st (st_load rfl (hb1.cell rfl)) rfl ?_))
  refine CW.loop (fun t : Nat × ZRow × ZRow => [(0, .pointer (some ⟨b1, 0, none⟩)), (9, .slice li.A li.n li.c), (10, .int .i64 (li.n : Int)), (11, .int .i64 (t.1 : Int))])
    (fun t w' => t.1 ≤ li.n ∧ Ext w w' ∧ G2 w0 w' g b1 ∧ lo ≤ w'.heap.size ∧ Blk w' b1 27 (encH ⟨⟨some ⟨g, 0, none⟩, 2, c⟩, m, cp, li, lv⟩) ∧ ZsOwn w' lo g c t.2.1 t.2.2 (backTo h z0 z1 (cntB h.Lists t.1)) ∧ RestH w' lo m li lv ls h) (fun t => li.n - t.1) (0, u0, u1)
    ⟨rfl, rfl, rfl, rfl, trivial⟩ ⟨by omega, hw, hE, hlw, hb1, by simpa [backTo, cntB, pagesB, backAll] using hZ, hR⟩ ?_
  clear hw hE hb1 hZ hR hA0 hlw
  rintro ⟨i, u0, u1⟩ w' ⟨hi, hw, hE, hlw, hb1, hZ, hR⟩
  simp only at hi hZ ⊢
  have hA := hR.lists.row.sl.base
  by_cases hin : i < li.n
  · have hil : i < h.Lists.length := by omega
    have hils : i < ls.length := by omega
    have hpg := hR.lists.each.get i hils hil
    have hpl := hpg.pages.sl.len
    have hsp := hs.pages _ (List.getElem_mem hil)
    repeat' (first | (show CW _ _ _ _ _ _; first | refine CW.seq ?_ | refine CW.region ?_ | refine CW.block ?_ | refine CW.condd_t rfl (by omega) ?_ | refine CW.skip ?_) | (show Post _ _ _ _ _; refine Post.seq ?_) | refine SW.nil ?_ | refine SW.pure rfl rfl ?_ | (show SW _ _ _ _ (⟨_, Op.indexAddr _ _ _, _, _, _, none⟩ :: _) _ _; refine SW.st (st_indexN rfl rfl (by assumption) (by omega)) rfl ?_) | (show SW _ _ _ _ (⟨_, Op.load _ _, _, _, _, none⟩ :: _) _ _; refine SW.st (st_loads rfl rfl ((hR.lists.row.sl.all hin))) rfl ?_))
    have hsz := hw.size
    refine SW.alloc rfl fun b3 w1 hw1 hb3b hb3 => ?_
    skip
    refine SW.storeAgg hb3 rfl rfl rfl rfl (Enc.one (enc := encL) _) fun w2 hb3' hg => ?_
    have hXX := hw1.own hb3b hg
    have hb3w : w.heap.size ≤ b3 := Nat.le_trans hw.size hb3b
    replace hw := Ext.trans hw hXX
    replace hb1 := hb1.ext hXX
    replace hZ := hZ.ext hXX
    replace hR := hR.ext hXX
    replace hE := hE.ext hXX
    replace hb3 := hb3'
    clear hb3' hw1 hg hXX
    have hpA := (hR.lists.each.get i hils hil).pages.sl.base
    have hlw2 : lo ≤ w2.heap.size := Nat.le_trans hlw (Nat.le_trans hb3b (Nat.le_of_lt hb3.lt))
    repeat' (first | (show CW _ _ _ _ _ _; first | refine CW.seq ?_ | refine CW.region ?_ | refine CW.block ?_) | (show Post _ _ _ _ _; refine Post.seq ?_) | refine SW.nil ?_ | refine SW.pure rfl rfl ?_ | (show SW _ _ _ _ (⟨_, Op.fieldAddr _ _ _, _, _, _, none⟩ :: _) _ _; refine SW.st (st_field rfl) rfl ?_) | (show SW _ _ _ _ (⟨_, Op.call ⟨.builtin .len, _, _⟩, _, _, _, none⟩ :: _) _ _; refine SW.st (st_len rfl) rfl ?_) | (show SW _ _ _ _ (⟨_, Op.load _ _, _, _, _, none⟩ :: _) _ _; refine SW.st (st_load rfl (hb3.cell rfl)) rfl ?_))
    refine CW.loop (fun t : Nat × ZRow × ZRow => [(0, .pointer (some ⟨b1, 0, none⟩)), (9, .slice li.A li.n li.c), (10, .int .i64 (li.n : Int)), (11, .int .i64 (i : Int)), (16, .slice ls[i].Pages.A ls[i].Pages.n ls[i].Pages.c), (17, .int .i64 (ls[i].Pages.n : Int)), (18, .int .i64 (t.1 : Int))])
      (fun t w' => t.1 ≤ ls[i].Pages.n ∧ Ext w w' ∧ G2 w0 w' g b1 ∧ lo ≤ w'.heap.size ∧ Blk w' b1 27 (encH ⟨⟨some ⟨g, 0, none⟩, 2, c⟩, m, cp, li, lv⟩) ∧ ZsOwn w' lo g c t.2.1 t.2.2 (backTo h z0 z1 (cntB h.Lists i + t.1)) ∧ RestH w' lo m li lv ls h) (fun t => ls[i].Pages.n - t.1) (0, u0, u1)
      ⟨rfl, rfl, rfl, rfl, rfl, rfl, rfl, trivial⟩ ⟨by omega, hw, hE, hlw2, hb1, hZ, hR⟩ ?_
    clear hw hE hb1 hZ hR hb3 hlw hlw2 hsz hA hpA hb3b hb3w hpg
    rintro ⟨j, u0, u1⟩ w' ⟨hj, hw, hE, hlw, hb1, hZ, hR⟩
    simp only at hj hZ ⊢
    by_cases hjn : j < ls[i].Pages.n
    · have hjl : j < h.Lists[i].Pages.length := by omega
      have hpg := hR.lists.each.get i hils hil
      have hpA := hpg.pages.sl.base
      obtain ⟨hK, hKe⟩ := cnt_get hil hjl
      have hN := hd.next hK
      have hD := hd.inv (cntB h.Lists i + j) (by omega)
      have hT := backAll_take (z0, z1) (pagesB h.Lists) _ hK
      rw [hKe] at hN hT
      have hT' : backTo h z0 z1 (cntB h.Lists i + (j + 1)) = backP (backTo h z0 z1 (cntB h.Lists i + j)) (pageB h.Lists[i].Pages[j]) := hT
      repeat' (first | (show CW _ _ _ _ _ _; first | refine CW.seq ?_ | refine CW.region ?_ | refine CW.block ?_ | refine CW.condd_t rfl (by omega) ?_ | refine CW.skip ?_) | (show Post _ _ _ _ _; refine Post.seq ?_) | refine SW.nil ?_ | refine SW.pure rfl rfl ?_ | (show SW _ _ _ _ (⟨_, Op.indexAddr _ _ _, _, _, _, none⟩ :: _) _ _; refine SW.st (st_indexN rfl rfl (by assumption) (by omega)) rfl ?_) | (show SW _ _ _ _ (⟨_, Op.load _ _, _, _, _, none⟩ :: _) _ _; refine SW.st (st_load rfl (hpg.pages.sl.one hjn rfl)) rfl ?_))
      refine SW.callX rfl rfl (back2_ans m cp li lv u0 u1 _ _ (pageB h.Lists[i].Pages[j]) lo g c b1 _ hb1 hZ hlw hD hN) fun v w5 hv => ?_
      obtain ⟨hg, u2, u3, hZ'⟩ := hv
      have hG := hZ.gr hg
      replace hw := hw.own hgw hg
      replace hE := hE.at_g hg
      replace hb1 := hb1.grT hG rfl
      replace hR := hR.grT hG rfl
      replace hlw := Nat.le_trans hlw hg.size
      repeat' (first | (show CW _ _ _ _ _ _; refine CW.region ?_) | (show Post _ _ _ _ _; first | refine Post.seq ?_ | refine Post.blk ?_) | refine SW.nil ?_ | refine SW.pure rfl rfl ?_ | (show SW _ _ _ _ (⟨_, Op.binOp _ _ _ _ _, _, _, _, none⟩ :: _) _ _; refine SW.st (st_add rfl rfl (by omega) (by omega)) rfl ?_))
      refine Post.again (j + 1, u2, u3) ⟨rfl, rfl, rfl, rfl, rfl, rfl, rfl, trivial⟩ (by simp only; omega) ⟨by simp only; omega, hw, hE, hlw, hb1, ?_, hR⟩
      simp only
      rw [hT']
      exact hZ'
    · have ej : cntB h.Lists i + j = cntB h.Lists (i + 1) := by rw [cnt_succ hil]; omega
      rw [ej] at hZ
      repeat' (first | (show CW _ _ _ _ _ _; first | refine CW.seq ?_ | refine CW.region ?_ | refine CW.condd_f rfl (by omega) ?_ | refine CW.exit ?_) | (show Post _ _ _ _ _; first | refine Post.seq ?_ | refine Post.seq_exit ?_ | refine Post.hit ?_ | refine Post.blk ?_ | refine Post.again_exit ?_) | refine SW.nil ?_ | refine SW.pure rfl rfl ?_ | (show SW _ _ _ _ (⟨_, Op.binOp _ _ _ _ _, _, _, _, none⟩ :: _) _ _; refine SW.st (st_add rfl rfl (by omega) (by omega)) rfl ?_))
      exact Post.again (i + 1, u0, u1) ⟨rfl, rfl, rfl, rfl, trivial⟩ (by simp only; omega) ⟨by simp only; omega, hw, hE, hlw, hb1, hZ, hR⟩
  · have ei : i = h.Lists.length := by omega
    have eall : backTo h z0 z1 (cntB h.Lists i) = backAll (z0, z1) (pagesB h.Lists) := by
      rw [ei, cnt_all, backTo, List.take_of_length_le (Nat.le_refl _)]
    rw [eall] at hZ
    repeat' (first | (show CW _ _ _ _ _ _; first | refine CW.seq ?_ | refine CW.region ?_ | refine CW.condd_f rfl (by omega) ?_ | refine CW.exit ?_) | (show Post _ _ _ _ _; first | refine Post.seq ?_ | refine Post.seq_exit ?_ | refine Post.hit ?_ | refine Post.again_exit ?_) | refine SW.nil ?_ | refine SW.pure rfl rfl ?_ | (show SW _ _ _ _ (⟨_, Op.fieldAddr _ _ _, _, _, _, none⟩ :: _) _ _; refine SW.st (st_field rfl) rfl ?_) | (show SW _ _ _ _ (⟨_, Op.nilCheck _, _, _, _, none⟩ :: _) _ _; refine SW.st (st_nilCheck rfl) rfl ?_))
    refine SW.storeB (i := 3) hb1 rfl rfl rfl rfl fun w6 hb1' hg => ?_
    have hG := hb1.gr hg
    replace hw := hw.own hbw hg
    repeat' (refine SW.nil ?_)
    exact Post.end0 rfl ⟨_, rfl, hw, hE.at_b hg, hb1', hR.grT hG rfl, u0, u1, hZ.grT hG rfl⟩
end Go.Proofs.Ytfdmgflboibdoaa
