/-
  Contracts: pages.drain; emptied of the reference.
-/
import Derived.Test.YtfdmgflboibdoaaPackPagesFrees15
import Derived.Test.YtfdmgflboibdoaaPackPagesFrees17
import Derived.Test.YtfdmgflboibdoaaPackPagesFrees10
import Derived.Test.YtfdmgflboibdoaaPackPagesFrees7
import Derived.Test.YtfdmgflboibdoaaPackPagesFrees11
set_option linter.unusedVariables false
set_option linter.unusedSimpArgs false
namespace Go.Proofs.Ytfdmgflboibdoaa
open Go.RowKit

/-- what of a heap of the call's own is not its zones -/
structure RestH (w : World) (lo : Nat) (m li lv : Sli) (ls : List LRow) (h : Heap) : Prop where
  mins : Own w lo 3 1 encI m.A m.n m.c h.Mins
  live : Own w lo 86 3 encBk lv.A lv.n lv.c h.Live
  lists : OwnLs w lo li ls h.Lists
section
variable {w w' : World} {lo t : Nat} {m li lv : Sli} {ls : List LRow} {h : Heap}
theorem RestH.ext (a : RestH w lo m li lv ls h) (hx : Ext w w') : RestH w' lo m li lv ls h := ⟨a.mins.ext hx, a.live.ext hx, a.lists.ext hx⟩
theorem RestH.grT (a : RestH w lo m li lv ls h) (hG : GrT w w' t) (hne : (Nat.beq t 3 || (Nat.beq t 86 || Nat.beq t 88)) = false) : RestH w' lo m li lv ls h := by
  simp only [Bool.or_eq_false_iff] at hne
  obtain ⟨h1, h2, h3⟩ := hne
  exact ⟨a.mins.grT hG h1, a.live.grT hG h2, a.lists.grT hG (by simp [h1, h3])⟩
theorem OwnH.split {r : HRow} (a : OwnH w lo r h) {z0 z1 : Zone} (hz : h.Zones = [z0, z1]) : ∃ g c u0 u1 ls, r.Zones = ⟨some ⟨g, 0, none⟩, 2, c⟩ ∧ ZsOwn w lo g c u0 u1 (z0, z1) ∧ RestH w lo r.Mins r.Lists r.Live ls h := by
  obtain ⟨zs, hzs⟩ := a.zones
  obtain ⟨ls, hls⟩ := a.lists
  have l0 := hzs.each.len
  rw [hz] at l0
  obtain ⟨u0, u1, rfl⟩ := two_of (show zs.length = 2 from l0)
  have l1 := hzs.row.len
  have h0 := hzs.each.get 0 (by simp) (by simp [hz])
  have h1 := hzs.each.get 1 (by simp) (by simp [hz])
  simp only [hz] at h0 h1
  have hc : 0 < r.Zones.c := by have := hzs.row.le; simp at l1; omega
  obtain ⟨g, rest, hA, hlo, _⟩ := hzs.row.opened hc
  refine ⟨g, r.Zones.c, u0, u1, ls, ?_, ⟨?_, h0, h1, hlo, hc⟩, ⟨a.mins, a.live, hls⟩⟩
  · rw [← hA]
    have : (2 : Nat) = r.Zones.n := l1
    rw [this]
  · have := hzs.row
    rw [hA, ← l1] at this
    exact this
theorem RestH.join (a : RestH w lo m li lv ls h) {g c : Nat} {u0 u1 : ZRow} {s : Zone × Zone} (hZ : ZsOwn w lo g c u0 u1 s) {cp : Int} (hc : cp = h.Cpus) : OwnH w lo ⟨⟨some ⟨g, 0, none⟩, 2, c⟩, m, cp, .nil, lv⟩ ⟨[s.1, s.2], h.Mins, h.Cpus, [], h.Live⟩ :=
  ⟨hc, a.mins, a.live, ⟨[u0, u1], ⟨hZ.row, All2.snoc (All2.snoc All2.nil hZ.z0) hZ.z1⟩⟩, ⟨[], .nil _ _⟩⟩
end

/-- since the world w0 only the blocks g and b of those that stood were changed -/
structure G2 (w0 w : World) (g b : Nat) : Prop where
  os : w.os = w0.os
  tape : w.tape = w0.tape
  output : w.output = w0.output
  size : w0.heap.size ≤ w.heap.size
  block : ∀ k, k < w0.heap.size → k ≠ g → k ≠ b → w.heap[k]? = w0.heap[k]?
section
variable {w0 w w' : World} {g b k t : Nat} {cs : List Value}
theorem G2.refl (w : World) (g b : Nat) : G2 w w g b := ⟨rfl, rfl, rfl, Nat.le_refl _, fun _ _ _ _ => rfl⟩
theorem G2.step (h : G2 w0 w g b) {row : Option Nat} (hg : w.grownBy w' row) (hr : ∀ k, row = some k → k = g ∨ k = b ∨ w0.heap.size ≤ k) : G2 w0 w' g b :=
  ⟨hg.os.trans h.os, hg.tape.trans h.tape, hg.output.trans h.output, Nat.le_trans h.size hg.size, fun k hk h1 h2 => by
    rw [hg.block k (Nat.lt_of_lt_of_le hk h.size) (fun e => by rcases hr k e.symm with e | e | e <;> omega)]
    exact h.block k hk h1 h2⟩
theorem G2.ext (h : G2 w0 w g b) (hx : Ext w w') : G2 w0 w' g b := h.step (hx.gr none) (fun k e => by cases e)
theorem G2.at_g (h : G2 w0 w g b) (hg : w.grownBy w' (some g)) : G2 w0 w' g b := h.step hg (fun k e => by cases e; exact .inl rfl)
theorem G2.at_b (h : G2 w0 w g b) (hg : w.grownBy w' (some b)) : G2 w0 w' g b := h.step hg (fun k e => by cases e; exact .inr (.inl rfl))
theorem G2.new (h : G2 w0 w g b) (hg : w.grownBy w' (some k)) (hk : w0.heap.size ≤ k) : G2 w0 w' g b := h.step hg (fun i e => by cases e; exact .inr (.inr hk))
theorem G2.blk (h : G2 w0 w g b) (hB : Blk w0 k t cs) (h1 : k ≠ g) (h2 : k ≠ b) : Blk w k t cs := (h.block k hB.lt h1 h2).trans hB
end

/-- the zones after so many pages -/
noncomputable def backTo (h : Heap) (z0 z1 : Zone) (k : Nat) : Zone × Zone := backAll (z0, z1) ((pagesB h.Lists).take k)

set_option maxHeartbeats 2000000 in
theorem drain_ans (h : Heap) (z0 z1 : Zone) (hd : DHeap h z0 z1) (hs : h.small) (m : Sli) (cp : Int) (li lv : Sli) (ls : List LRow) (u0 u1 : ZRow) (g c b1 lo : Nat) (w w0 : World) (hw : Ext w w0) (hlo : w.heap.size ≤ lo) (hlw : lo ≤ w0.heap.size) (hb1w : lo ≤ b1)
    (hb1 : Blk w0 b1 27 (encH ⟨⟨some ⟨g, 0, none⟩, 2, c⟩, m, cp, li, lv⟩)) (hZ : ZsOwn w0 lo g c u0 u1 (z0, z1)) (hR : RestH w0 lo m li lv ls h) :
    AnsX Try.prog 123 [.pointer (some ⟨b1, 0, none⟩)] w0 fun v w' => Ext w w' ∧ G2 w0 w' g b1 ∧ Blk w' b1 27 (encH ⟨⟨some ⟨g, 0, none⟩, 2, c⟩, m, cp, .nil, lv⟩) ∧ RestH w' lo m li lv ls h ∧ ∃ u0 u1, ZsOwn w' lo g c u0 u1 (backAll (z0, z1) (pagesB h.Lists)) := by
  refine ansx_of Try.func123 rfl Try.ntmps123 rfl ?_
  have hgw : w.heap.size ≤ g := Nat.le_trans hlo hZ.glo
  have hbw : w.heap.size ≤ b1 := Nat.le_trans hlo hb1w
  have hE := G2.refl w0 g b1
  have hll := hR.lists.rd.len
  have s4 := hs.lists
  have hA0 := hR.lists.row.sl.base
  repeat' (first | (show CW _ _ _ _ _ _; first | refine CW.seq ?_ | refine CW.region ?_ | refine CW.block ?_) | (show Post _ _ _ _ _; refine Post.seq ?_) | refine SW.nil ?_ | refine SW.pure rfl rfl ?_ | (show SW _ _ _ _ (⟨_, Op.fieldAddr _ _ _, _, _, _, none⟩ :: _) _ _; refine SW.st (st_field rfl) rfl ?_) | (show SW _ _ _ _ (⟨_, Op.nilCheck _, _, _, _, none⟩ :: _) _ _; refine SW.st (st_nilCheck rfl) rfl ?_) | (show SW _ _ _ _ (⟨_, Op.call ⟨.builtin .len, _, _⟩, _, _, _, none⟩ :: _) _ _; refine SW.st (st_len rfl) rfl ?_) | (show SW _ _ _ _ (⟨_, Op.load _ _, _, _, _, none⟩ :: _) _ _; refine SW.st (st_load rfl (hb1.cell rfl)) rfl ?_))
  refine CW.loop (fun t : Nat × ZRow × ZRow => [(0, .pointer (some ⟨b1, 0, none⟩)), (9, .slice li.A li.n li.c), (10, .int .i64 (li.n : Int)), (11, .int .i64 (t.1 : Int))])
    (fun t w' => t.1 ≤ li.n ∧ Ext w w' ∧ G2 w0 w' g b1 ∧ lo ≤ w'.heap.size ∧ Blk w' b1 27 (encH ⟨⟨some ⟨g, 0, none⟩, 2, c⟩, m, cp, li, lv⟩) ∧ ZsOwn w' lo g c t.2.1 t.2.2 (backTo h z0 z1 (cntB h.Lists t.1)) ∧ RestH w' lo m li lv ls h) (fun t => li.n - t.1) (0, u0, u1)
    ⟨rfl, rfl, rfl, rfl, trivial⟩ ⟨by omega, hw, hE, hlw, hb1, by simpa [backTo, cntB, pagesB, backAll] using hZ, hR⟩ ?_
  clear hw hE hb1 hZ hR hA0 hlw
  rintro ⟨i, u0, u1⟩ w' ⟨hi, hw, hE, hlw, hb1, hZ, hR⟩
  simp only at hi hZ ⊢
  have hA := hR.lists.row.sl.base
  by_cases hin : i < li.n
  · have hil : i < h.Lists.length := by omega
    have hils : i < ls.length := by omega
    have hpg := hR.lists.each.get i hils hil
    have hpl := hpg.pages.sl.len
    have hsp := hs.pages _ (List.getElem_mem hil)
    repeat' (first | (show CW _ _ _ _ _ _; first | refine CW.seq ?_ | refine CW.region ?_ | refine CW.block ?_ | refine CW.condd_t rfl (by omega) ?_ | refine CW.skip ?_) | (show Post _ _ _ _ _; refine Post.seq ?_) | refine SW.nil ?_ | refine SW.pure rfl rfl ?_ | (show SW _ _ _ _ (⟨_, Op.indexAddr _ _ _, _, _, _, none⟩ :: _) _ _; refine SW.st (st_indexN rfl rfl (by assumption) (by omega)) rfl ?_) | (show SW _ _ _ _ (⟨_, Op.load _ _, _, _, _, none⟩ :: _) _ _; refine SW.st (st_loads rfl rfl ((hR.lists.row.sl.all hin))) rfl ?_))
    have hsz := hw.size
    refine SW.alloc rfl fun b3 w1 hw1 hb3b hb3 => ?_
    skip
    refine SW.storeAgg hb3 rfl rfl rfl rfl (Enc.one (enc := encL) _) fun w2 hb3' hg => ?_
    have hXX := hw1.own hb3b hg
    have hb3w : w.heap.size ≤ b3 := Nat.le_trans hw.size hb3b
    replace hw := Ext.trans hw hXX
    replace hb1 := hb1.ext hXX
    replace hZ := hZ.ext hXX
    replace hR := hR.ext hXX
    replace hE := hE.ext hXX
    replace hb3 := hb3'
    clear hb3' hw1 hg hXX
    have hpA := (hR.lists.each.get i hils hil).pages.sl.base
    have hlw2 : lo ≤ w2.heap.size := Nat.le_trans hlw (Nat.le_trans hb3b (Nat.le_of_lt hb3.lt))
    repeat' (first | (show CW _ _ _ _ _ _; first | refine CW.seq ?_ | refine CW.region ?_ | refine CW.block ?_) | (show Post _ _ _ _ _; refine Post.seq ?_) | refine SW.nil ?_ | refine SW.pure rfl rfl ?_ | (show SW _ _ _ _ (⟨_, Op.fieldAddr _ _ _, _, _, _, none⟩ :: _) _ _; refine SW.st (st_field rfl) rfl ?_) | (show SW _ _ _ _ (⟨_, Op.call ⟨.builtin .len, _, _⟩, _, _, _, none⟩ :: _) _ _; refine SW.st (st_len rfl) rfl ?_) | (show SW _ _ _ _ (⟨_, Op.load _ _, _, _, _, none⟩ :: _) _ _; refine SW.st (st_load rfl (hb3.cell rfl)) rfl ?_))
    refine CW.loop (fun t : Nat × ZRow × ZRow => [(0, .pointer (some ⟨b1, 0, none⟩)), (9, .slice li.A li.n li.c), (10, .int .i64 (li.n : Int)), (11, .int .i64 (i : Int)), (16, .slice ls[i].Pages.A ls[i].Pages.n ls[i].Pages.c), (17, .int .i64 (ls[i].Pages.n : Int)), (18, .int .i64 (t.1 : Int))])
      (fun t w' => t.1 ≤ ls[i].Pages.n ∧ Ext w w' ∧ G2 w0 w' g b1 ∧ lo ≤ w'.heap.size ∧ Blk w' b1 27 (encH ⟨⟨some ⟨g, 0, none⟩, 2, c⟩, m, cp, li, lv⟩) ∧ ZsOwn w' lo g c t.2.1 t.2.2 (backTo h z0 z1 (cntB h.Lists i + t.1)) ∧ RestH w' lo m li lv ls h) (fun t => ls[i].Pages.n - t.1) (0, u0, u1)
      ⟨rfl, rfl, rfl, rfl, rfl, rfl, rfl, trivial⟩ ⟨by omega, hw, hE, hlw2, hb1, hZ, hR⟩ ?_
    clear hw hE hb1 hZ hR hb3 hlw hlw2 hsz hA hpA hb3b hb3w hpg
    rintro ⟨j, u0, u1⟩ w' ⟨hj, hw, hE, hlw, hb1, hZ, hR⟩
    simp only at hj hZ ⊢
    by_cases hjn : j < ls[i].Pages.n
    · have hjl : j < h.Lists[i].Pages.length := by omega
      have hpg := hR.lists.each.get i hils hil
      have hpA := hpg.pages.sl.base
      obtain ⟨hK, hKe⟩ := cnt_get hil hjl
      have hN := hd.next hK
      have hD := hd.inv (cntB h.Lists i + j) (by omega)
      have hT := backAll_take (z0, z1) (pagesB h.Lists) _ hK
      rw [hKe] at hN hT
      have hT' : backTo h z0 z1 (cntB h.Lists i + (j + 1)) = backP (backTo h z0 z1 (cntB h.Lists i + j)) (pageB h.Lists[i].Pages[j]) := hT
      repeat' (first | (show CW _ _ _ _ _ _; first | refine CW.seq ?_ | refine CW.region ?_ | refine CW.block ?_ | refine CW.condd_t rfl (by omega) ?_ | refine CW.skip ?_) | (show Post _ _ _ _ _; refine Post.seq ?_) | refine SW.nil ?_ | refine SW.pure rfl rfl ?_ | (show SW _ _ _ _ (⟨_, Op.indexAddr _ _ _, _, _, _, none⟩ :: _) _ _; refine SW.st (st_indexN rfl rfl (by assumption) (by omega)) rfl ?_) | (show SW _ _ _ _ (⟨_, Op.load _ _, _, _, _, none⟩ :: _) _ _; refine SW.st (st_load rfl (hpg.pages.sl.one hjn rfl)) rfl ?_))
      refine SW.callX rfl rfl (back2_ans m cp li lv u0 u1 _ _ (pageB h.Lists[i].Pages[j]) lo g c b1 _ hb1 hZ hlw hD hN) fun v w5 hv => ?_
      obtain ⟨hg, u2, u3, hZ'⟩ := hv
      have hG := hZ.gr hg
      replace hw := hw.own hgw hg
      replace hE := hE.at_g hg
      replace hb1 := hb1.grT hG rfl
      replace hR := hR.grT hG rfl
      replace hlw := Nat.le_trans hlw hg.size
      repeat' (first | (show CW _ _ _ _ _ _; refine CW.region ?_) | (show Post _ _ _ _ _; first | refine Post.seq ?_ | refine Post.blk ?_) | refine SW.nil ?_ | refine SW.pure rfl rfl ?_ | (show SW _ _ _ _ (⟨_, Op.binOp _ _ _ _ _, _, _, _, none⟩ :: _) _ _; refine SW.st (st_add rfl rfl (by omega) (by omega)) rfl ?_))
      refine Post.again (j + 1, u2, u3) ⟨rfl, rfl, rfl, rfl, rfl, rfl, rfl, trivial⟩ (by simp only; omega) ⟨by simp only; omega, hw, hE, hlw, hb1, ?_, hR⟩
      simp only
      rw [hT']
      exact hZ'
    · have ej : cntB h.Lists i + j = cntB h.Lists (i + 1) := by rw [cnt_succ hil]; omega
      rw [ej] at hZ
      repeat' (first | (show CW _ _ _ _ _ _; first | refine CW.seq ?_ | refine CW.region ?_ | refine CW.condd_f rfl (by omega) ?_ | refine CW.exit ?_) | (show Post _ _ _ _ _; first | refine Post.seq ?_ | refine Post.seq_exit ?_ | refine Post.hit ?_ | refine Post.blk ?_ | refine Post.again_exit ?_) | refine SW.nil ?_ | refine SW.pure rfl rfl ?_ | (show SW _ _ _ _ (⟨_, Op.binOp _ _ _ _ _, _, _, _, none⟩ :: _) _ _; refine SW.st (st_add rfl rfl (by omega) (by omega)) rfl ?_))
      exact Post.again (i + 1, u0, u1) ⟨rfl, rfl, rfl, rfl, trivial⟩ (by simp only; omega) ⟨by simp only; omega, hw, hE, hlw, hb1, hZ, hR⟩
  · have ei : i = h.Lists.length := by omega
    have eall : backTo h z0 z1 (cntB h.Lists i) = backAll (z0, z1) (pagesB h.Lists) := by
      rw [ei, cnt_all, backTo, List.take_of_length_le (Nat.le_refl _)]
    rw [eall] at hZ
    repeat' (first | (show CW _ _ _ _ _ _; first | refine CW.seq ?_ | refine CW.region ?_ | refine CW.condd_f rfl (by omega) ?_ | refine CW.exit ?_) | (show Post _ _ _ _ _; first | refine Post.seq ?_ | refine Post.seq_exit ?_ | refine Post.hit ?_ | refine Post.again_exit ?_) | refine SW.nil ?_ | refine SW.pure rfl rfl ?_ | (show SW _ _ _ _ (⟨_, Op.fieldAddr _ _ _, _, _, _, none⟩ :: _) _ _; refine SW.st (st_field rfl) rfl ?_) | (show SW _ _ _ _ (⟨_, Op.nilCheck _, _, _, _, none⟩ :: _) _ _; refine SW.st (st_nilCheck rfl) rfl ?_))
    refine SW.storeB (i := 3) hb1 rfl rfl rfl rfl fun w6 hb1' hg => ?_
    have hG := hb1.gr hg
    replace hw := hw.own hbw hg
    repeat' (refine SW.nil ?_)
    exact Post.end0 rfl ⟨_, rfl, hw, hE.at_b hg, hb1', hR.grT hG rfl, u0, u1, hZ.grT hG rfl⟩
end Go.Proofs.Ytfdmgflboibdoaa

/-
  Contracts: TypeAt, TypeOf, Pages, PagesOf; the laws BuddyTypes, BuddyPages.
-/
set_option linter.unusedVariables false
namespace Go.Proofs.Ytfdmgflboibdoaa
open Go.RowKit

/-- what TypeAt answers: the type, the fault -/
noncomputable def typeV (z : Zone) (a : Int) : Int × Int := if zoneB z then (if z.From ≤ a ∧ a < z.To then (z.Types.getD ((a - z.From) / 8).toNat 0, 0) else (0, 1)) else (0, 8)
noncomputable def pagesV (z : Zone) : Int × Int := if zoneB z then (pagesOf z.Free, 0) else (0, 8)


theorem Zbuddy.TypeAt_ans (r : ZRow) (z : Zone) (a : Int) (w : World) (hr : RdZ w r z) (hf : r.Free.n ≤ 2305843009213693952) (ht : r.Types.n ≤ 1000000000000000000) (h1 : -9223372036854775808 ≤ r.From ∧ r.From ≤ 9223372036854775807) (h2 : -9223372036854775808 ≤ r.To ∧ r.To ≤ 9223372036854775807) :
    Ans Try.prog 29 [.agg (encZ r).toArray, .int .i64 a] w fun v _ => v = .tuple #[.int .i64 (typeV z a).1, .int .i64 (typeV z a).2] := by
  refine ans_of Try.func29 rfl Try.ntmps29 rfl ?_
  refine CW.seq (CW.region (SW.box rfl rfl fun b1 w1 hw hb1b hb1 => ?_))
  have eF := hr.from_
  have eT := hr.to_
  have hTl := hr.types.len
  obtain ⟨q, hq⟩ : ∃ q, zoneB z = q := ⟨_, rfl⟩
  have c1 : ∀ w', Ext w w' → Ans Try.prog 27 [.agg (encZ r).toArray] w' fun v _ => v = .int .i64 (if q then 0 else 8) := fun w' h => by
    have := Zcheck_ans r z w' (hr.ext h) hf (by omega) h1 h2
    rwa [hq] at this
  have c2 : ∀ w', Ext w w' → Ans Try.prog 28 [.agg (encZ r).toArray] w' fun v _ => v = .bool q := fun w' h => by
    have := ZoneMay_ans r z w' (hr.ext h) hf ht h1 h2
    rwa [hq] at this
  cases q
  · have e : typeV z a = (0, 8) := by simp [typeV, hq]
    rw [e]
    simp only [Bool.false_eq_true, if_false] at c1
    repeat' (first | (show CW _ _ _ _ _ _; first | refine CW.seq ?_ | refine CW.region ?_ | refine CW.condn_t rfl (by omega) ?_ | refine CW.ret ?_) | (show Post _ _ _ _ _; first | refine Post.seq ?_ | refine Post.seq_ret ?_) | refine SW.nil ?_ | refine SW.pure rfl rfl ?_ | (show SW _ _ _ _ (⟨_, Op.load _ _, _, _, _, none⟩ :: _) _ _; refine SW.st (st_loads rfl rfl ((fun _ _ => hb1.cell))) rfl ?_) | (show SW _ _ _ _ (⟨_, Op.call ⟨.value (.func _), _, _⟩, _, _, _, none⟩ :: _) _ _; (refine SW.call rfl rfl (c1 _ hw) ?_; intro v w1 hw1 hv; subst hv; replace hw := Ext.trans hw hw1; replace hb1 := hb1.ext hw1; clear hw1)))
    exact Post.ret2 rfl rfl rfl ⟨_, rfl, hw, rfl⟩
  · simp only [if_true] at c1
    have hz := zoneB_iff.1 hq
    obtain ⟨o1, o2, o3, o4, o5⟩ := hz.ok
    have hA := hr.types.base
    by_cases hin : z.From ≤ a ∧ a < z.To
    · obtain ⟨k, hk, hkl⟩ := typeIdx hz hin.1 hin.2
      have hkn : k < r.Types.n := by omega
      have e : typeV z a = (z.Types[k], 0) := by simp [typeV, hq, hin, hk, List.getD_eq_getElem?_getD, List.getElem?_eq_getElem hkl]
      rw [e]
      obtain ⟨i1, i2⟩ := id hin
      repeat' (first | (show CW _ _ _ _ _ _; first | refine CW.seq ?_ | refine CW.region ?_ | refine CW.condd_f rfl (by omega) ?_ | refine CW.condn_f rfl (by omega) ?_ | refine CW.skip ?_ | refine CW.ret ?_) | (show Post _ _ _ _ _; refine Post.seq ?_) | refine SW.nil ?_ | (show SW _ _ _ _ (⟨_, _, _, _, _, some _⟩ :: _) _ _; first | refine SW.want_f rfl rfl (by with_reducible rfl) ?_ | refine SW.splitd_f rfl rfl rfl (by omega) ?_) | refine SW.pure rfl rfl ?_ | (show SW _ _ _ _ (⟨_, Op.fieldAddr _ _ _, _, _, _, none⟩ :: _) _ _; refine SW.st (st_field rfl) rfl ?_) | (show SW _ _ _ _ (⟨_, Op.binOp _ _ _ _ _, _, _, _, none⟩ :: _) _ _; first | refine SW.st (st_sub rfl rfl (by omega) (by omega)) rfl ?_ | refine SW.st (st_quo rfl rfl (by omega) (by omega) (by omega)) rfl ?_) | (show SW _ _ _ _ (⟨_, Op.indexAddr _ _ _, _, _, _, none⟩ :: _) _ _; refine SW.st (st_indexI (k) rfl rfl (by assumption) (by omega) (by omega)) rfl ?_) | (show SW _ _ _ _ (⟨_, Op.load _ _, _, _, _, none⟩ :: _) _ _; first | refine SW.st (st_loads rfl rfl ((fun _ _ => hb1.cell))) rfl ?_ | refine SW.st (st_load rfl (hb1.cell rfl)) rfl ?_ | refine SW.st (st_loadx hw rfl (hr.types.one hkn rfl)) rfl ?_) | (show SW _ _ _ _ (⟨_, Op.call ⟨.value (.func _), _, _⟩, _, _, _, none⟩ :: _) _ _; (refine SW.call rfl rfl (c1 _ hw) ?_; intro v w1 hw1 hv; subst hv; replace hw := Ext.trans hw hw1; replace hb1 := hb1.ext hw1; clear hw1)))
      all_goals first | (exfalso; omega) | skip
      exact Post.ret2 rfl rfl rfl ⟨_, rfl, hw, rfl⟩
    · have e : typeV z a = (0, 1) := by simp only [typeV, hq, if_true, if_neg hin]
      rw [e]
      repeat' (first | (show CW _ _ _ _ _ _; first | refine CW.seq ?_ | refine CW.region ?_ | refine CW.condtr rfl (by with_reducible rfl) ?_ | refine CW.condd_t rfl (by omega) ?_ | refine CW.condn_f rfl (by omega) ?_ | refine CW.skip ?_ | refine CW.ret ?_) | (show Post _ _ _ _ _; first | refine Post.seq ?_ | refine Post.seq_ret ?_) | refine SW.nil ?_ | (show SW _ _ _ _ (⟨_, _, _, _, _, some _⟩ :: _) _ _; first | refine SW.want_f rfl rfl (by with_reducible rfl) ?_ | refine SW.skip_f rfl rfl (by with_reducible rfl) rfl ?_ | refine SW.splitd rfl rfl rfl (fun h => ?_) (fun h => ?_)) | refine SW.pure rfl rfl ?_ | (show SW _ _ _ _ (⟨_, Op.fieldAddr _ _ _, _, _, _, none⟩ :: _) _ _; refine SW.st (st_field rfl) rfl ?_) | (show SW _ _ _ _ (⟨_, Op.load _ _, _, _, _, none⟩ :: _) _ _; first | refine SW.st (st_loads rfl rfl ((fun _ _ => hb1.cell))) rfl ?_ | refine SW.st (st_load rfl (hb1.cell rfl)) rfl ?_) | (show SW _ _ _ _ (⟨_, Op.call ⟨.value (.func _), _, _⟩, _, _, _, none⟩ :: _) _ _; (refine SW.call rfl rfl (c1 _ hw) ?_; intro v w1 hw1 hv; subst hv; replace hw := Ext.trans hw hw1; replace hb1 := hb1.ext hw1; clear hw1)))
      all_goals first | (exfalso; omega) | skip
      all_goals exact Post.ret2 rfl rfl rfl ⟨_, rfl, hw, rfl⟩


theorem Zpaddockref.TypeOf_ans (r : ZRow) (z : Zone) (a : Int) (w : World) (hr : RdZ w r z) (hf : r.Free.n ≤ 2305843009213693952) (ht : r.Types.n ≤ 1000000000000000000) (h1 : -9223372036854775808 ≤ r.From ∧ r.From ≤ 9223372036854775807) (h2 : -9223372036854775808 ≤ r.To ∧ r.To ≤ 9223372036854775807) :
    Ans Try.prog 30 [.agg (encZ r).toArray, .int .i64 a] w fun v _ => v = .tuple #[.int .i64 (typeV z a).1, .int .i64 (typeV z a).2] := by
  refine ans_of Try.func30 rfl Try.ntmps30 rfl ?_
  refine CW.seq (CW.region (SW.box rfl rfl fun b1 w1 hw hb1b hb1 => ?_))
  have eF := hr.from_
  have eT := hr.to_
  have hTl := hr.types.len
  obtain ⟨q, hq⟩ : ∃ q, zoneB z = q := ⟨_, rfl⟩
  have c1 : ∀ w', Ext w w' → Ans Try.prog 27 [.agg (encZ r).toArray] w' fun v _ => v = .int .i64 (if q then 0 else 8) := fun w' h => by
    have := Zcheck_ans r z w' (hr.ext h) hf (by omega) h1 h2
    rwa [hq] at this
  have c2 : ∀ w', Ext w w' → Ans Try.prog 28 [.agg (encZ r).toArray] w' fun v _ => v = .bool q := fun w' h => by
    have := ZoneMay_ans r z w' (hr.ext h) hf ht h1 h2
    rwa [hq] at this
  cases q
  · have e : typeV z a = (0, 8) := by simp [typeV, hq]
    rw [e]
    simp only [Bool.false_eq_true, if_false] at c1
    repeat' (first | (show CW _ _ _ _ _ _; first | refine CW.seq ?_ | refine CW.region ?_ | refine CW.condt rfl ?_ | refine CW.ret ?_) | (show Post _ _ _ _ _; first | refine Post.seq ?_ | refine Post.seq_ret ?_) | refine SW.nil ?_ | refine SW.pure rfl rfl ?_ | (show SW _ _ _ _ (⟨_, Op.load _ _, _, _, _, none⟩ :: _) _ _; refine SW.st (st_loads rfl rfl ((fun _ _ => hb1.cell))) rfl ?_) | (show SW _ _ _ _ (⟨_, Op.call ⟨.value (.func _), _, _⟩, _, _, _, none⟩ :: _) _ _; (refine SW.call rfl rfl (c2 _ hw) ?_; intro v w1 hw1 hv; subst hv; replace hw := Ext.trans hw hw1; replace hb1 := hb1.ext hw1; clear hw1)))
    exact Post.ret2 rfl rfl rfl ⟨_, rfl, hw, rfl⟩
  · simp only [if_true] at c1
    have hz := zoneB_iff.1 hq
    obtain ⟨o1, o2, o3, o4, o5⟩ := hz.ok
    have hA := hr.types.base
    by_cases hin : z.From ≤ a ∧ a < z.To
    · obtain ⟨k, hk, hkl⟩ := typeIdx hz hin.1 hin.2
      have hkn : k < r.Types.n := by omega
      have e : typeV z a = (z.Types[k], 0) := by simp [typeV, hq, hin, hk, List.getD_eq_getElem?_getD, List.getElem?_eq_getElem hkl]
      rw [e]
      obtain ⟨i1, i2⟩ := id hin
      repeat' (first | (show CW _ _ _ _ _ _; first | refine CW.seq ?_ | refine CW.region ?_ | refine CW.condn_f rfl (by omega) ?_ | refine CW.condf rfl ?_ | refine CW.skip ?_ | refine CW.ret ?_) | (show Post _ _ _ _ _; refine Post.seq ?_) | refine SW.nil ?_ | refine SW.pure rfl rfl ?_ | (show SW _ _ _ _ (⟨_, Op.fieldAddr _ _ _, _, _, _, none⟩ :: _) _ _; refine SW.st (st_field rfl) rfl ?_) | (show SW _ _ _ _ (⟨_, Op.binOp _ _ _ _ _, _, _, _, none⟩ :: _) _ _; first | refine SW.st (st_sub rfl rfl (by omega) (by omega)) rfl ?_ | refine SW.st (st_quo rfl rfl (by omega) (by omega) (by omega)) rfl ?_) | (show SW _ _ _ _ (⟨_, Op.indexAddr _ _ _, _, _, _, none⟩ :: _) _ _; refine SW.st (st_indexI (k) rfl rfl (by assumption) (by omega) (by omega)) rfl ?_) | (show SW _ _ _ _ (⟨_, Op.load _ _, _, _, _, none⟩ :: _) _ _; first | refine SW.st (st_loads rfl rfl ((fun _ _ => hb1.cell))) rfl ?_ | refine SW.st (st_load rfl (hb1.cell rfl)) rfl ?_ | refine SW.st (st_loadx hw rfl (hr.types.one hkn rfl)) rfl ?_) | (show SW _ _ _ _ (⟨_, Op.call ⟨.value (.func _), _, _⟩, _, _, _, none⟩ :: _) _ _; first | (refine SW.call rfl rfl (c2 _ hw) ?_; intro v w1 hw1 hv; subst hv; replace hw := Ext.trans hw hw1; replace hb1 := hb1.ext hw1; clear hw1) | (refine SW.call rfl rfl (In_ans _ _ _ _) ?_; intro v w1 hw1 hv; subst hv; replace hw := Ext.trans hw hw1; replace hb1 := hb1.ext hw1; clear hw1)))
      all_goals first | (exfalso; omega) | skip
      exact Post.ret2 rfl rfl rfl ⟨_, rfl, hw, rfl⟩
    · have e : typeV z a = (0, 1) := by simp only [typeV, hq, if_true, if_neg hin]
      rw [e]
      repeat' (first | (show CW _ _ _ _ _ _; first | refine CW.seq ?_ | refine CW.region ?_ | refine CW.condn_t rfl (by omega) ?_ | refine CW.condf rfl ?_ | refine CW.skip ?_ | refine CW.ret ?_) | (show Post _ _ _ _ _; first | refine Post.seq ?_ | refine Post.seq_ret ?_) | refine SW.nil ?_ | refine SW.pure rfl rfl ?_ | (show SW _ _ _ _ (⟨_, Op.fieldAddr _ _ _, _, _, _, none⟩ :: _) _ _; refine SW.st (st_field rfl) rfl ?_) | (show SW _ _ _ _ (⟨_, Op.binOp _ _ _ _ _, _, _, _, none⟩ :: _) _ _; refine SW.st (st_sub rfl rfl (by omega) (by omega)) rfl ?_) | (show SW _ _ _ _ (⟨_, Op.load _ _, _, _, _, none⟩ :: _) _ _; first | refine SW.st (st_loads rfl rfl ((fun _ _ => hb1.cell))) rfl ?_ | refine SW.st (st_load rfl (hb1.cell rfl)) rfl ?_) | (show SW _ _ _ _ (⟨_, Op.call ⟨.value (.func _), _, _⟩, _, _, _, none⟩ :: _) _ _; first | (refine SW.call rfl rfl (c2 _ hw) ?_; intro v w1 hw1 hv; subst hv; replace hw := Ext.trans hw hw1; replace hb1 := hb1.ext hw1; clear hw1) | (refine SW.call rfl rfl (In_ans _ _ _ _) ?_; intro v w1 hw1 hv; subst hv; replace hw := Ext.trans hw hw1; replace hb1 := hb1.ext hw1; clear hw1)))
      all_goals first | (exfalso; omega) | skip
      all_goals exact Post.ret2 rfl rfl rfl ⟨_, rfl, hw, rfl⟩


theorem buddyTypes_ans (r : ZRow) (z : Zone) (a : Int) (w : World) (hr : RdZ w r z) (hf : r.Free.n ≤ 2305843009213693952) (ht : r.Types.n ≤ 1000000000000000000) (h1 : -9223372036854775808 ≤ r.From ∧ r.From ≤ 9223372036854775807) (h2 : -9223372036854775808 ≤ r.To ∧ r.To ≤ 9223372036854775807) :
    Ans Try.prog 6 [.agg (encZ r).toArray, .int .i64 a] w fun v _ => v = .bool true := by
  refine ans_of Try.func6 rfl Try.ntmps6 rfl ?_
  refine CW.seq (CW.region (SW.box rfl rfl fun b1 w1 hw hb1b hb1 => ?_))
  repeat' (first | (show CW _ _ _ _ _ _; first | refine CW.seq ?_ | refine CW.region ?_ | refine CW.ret ?_) | (show Post _ _ _ _ _; refine Post.seq ?_) | refine SW.nil ?_ | (show SW _ _ _ _ (⟨_, _, _, _, _, some _⟩ :: _) _ _; first | refine SW.want_t rfl rfl (by with_reducible rfl) ?_ | refine SW.splitd_t rfl rfl rfl (by omega) ?_) | refine SW.pure rfl rfl ?_ | (show SW _ _ _ _ (⟨_, Op.load _ _, _, _, _, none⟩ :: _) _ _; refine SW.st (st_loads rfl rfl ((fun _ _ => hb1.cell))) rfl ?_) | (show SW _ _ _ _ (⟨_, Op.call ⟨.value (.func _), _, _⟩, _, _, _, none⟩ :: _) _ _; first | (refine SW.call rfl rfl (Zbuddy.TypeAt_ans r z a _ (hr.ext hw) hf ht h1 h2) ?_; intro v w1 hw1 hv; subst hv; replace hw := Ext.trans hw hw1; replace hb1 := hb1.ext hw1; clear hw1) | (refine SW.call rfl rfl (Zpaddockref.TypeOf_ans r z a _ (hr.ext hw) hf ht h1 h2) ?_; intro v w1 hw1 hv; subst hv; replace hw := Ext.trans hw hw1; replace hb1 := hb1.ext hw1; clear hw1)))
  all_goals first | (exfalso; omega) | skip
  exact Post.ret1 rfl rfl ⟨_, rfl, hw, by simp⟩

theorem freeOf_ans (A : Option Addr) (n c : Nat) (l : List Block) (w : World) (hl : Sl w 3 encBk A n l) (hok : ∀ b ∈ l, 0 ≤ b.Order ∧ b.Order ≤ 4) (hn : n ≤ 100000000000000000) :
    Ans Try.prog 83 [.slice A n c] w fun v _ => v = .int .i64 (pagesOf l) := by
  refine ans_of Try.func83 rfl Try.ntmps83 rfl ?_
  have hw := Ext.refl w
  have hA := hl.base
  repeat' (first | (show CW _ _ _ _ _ _; first | refine CW.seq ?_ | refine CW.region ?_ | refine CW.block ?_) | (show Post _ _ _ _ _; refine Post.seq ?_) | refine SW.nil ?_ | refine SW.pure rfl rfl ?_)
  refine CW.loop (fun k : Nat => [(0, .slice A n c), (3, .int .i64 (pagesOf (l.take k))), (4, .int .i64 (k : Int))]) (fun k w' => k ≤ n ∧ Ext w w' ∧ 0 ≤ pagesOf (l.take k) ∧ pagesOf (l.take k) ≤ 16 * (k : Int)) (fun k => n - k) 0 ⟨rfl, rfl, rfl, trivial⟩ ⟨by omega, hw, by simp [pagesOf], by simp [pagesOf]⟩ ?_
  clear hw
  rintro k w' ⟨hk, hw, hs0, hs1⟩
  by_cases hkn : k < n
  · have hkl := hl.lt hkn
    obtain ⟨f1, f2⟩ := hok l[k] (List.getElem_mem hkl)
    have hp := pw_le f1 f2
    have et := pagesOf_take l k hkl
    repeat' (first | (show CW _ _ _ _ _ _; first | refine CW.seq ?_ | refine CW.region ?_ | refine CW.block ?_ | refine CW.condd_t rfl (by omega) ?_ | refine CW.skip ?_) | (show Post _ _ _ _ _; first | refine Post.seq ?_ | refine Post.blk ?_) | refine SW.nil ?_ | refine SW.pure rfl rfl ?_ | (show SW _ _ _ _ (⟨_, Op.fieldAddr _ _ _, _, _, _, none⟩ :: _) _ _; refine SW.st (st_field rfl) rfl ?_) | (show SW _ _ _ _ (⟨_, Op.binOp _ _ _ _ _, _, _, _, none⟩ :: _) _ _; refine SW.st (st_add rfl rfl (by omega) (by omega)) rfl ?_) | (show SW _ _ _ _ (⟨_, Op.indexAddr _ _ _, _, _, _, none⟩ :: _) _ _; refine SW.st (st_indexN rfl rfl (by assumption) (by omega)) rfl ?_) | (show SW _ _ _ _ (⟨_, Op.call ⟨.builtin .len, _, _⟩, _, _, _, none⟩ :: _) _ _; refine SW.st (st_len rfl) rfl ?_) | (show SW _ _ _ _ (⟨_, Op.load _ _, _, _, _, none⟩ :: _) _ _; refine SW.st (st_loadx hw rfl (hl.fld hkn rfl)) rfl ?_) | (show SW _ _ _ _ (⟨_, Op.call ⟨.value (.func _), _, _⟩, _, _, _, none⟩ :: _) _ _; (refine SW.call rfl rfl (power_ans _ (by omega) _) ?_; intro v w1 hw1 hv; subst hv; replace hw := Ext.trans hw hw1; clear hw1)))
    exact Post.again (k + 1) ⟨rfl, by rw [et]; rfl, rfl, trivial⟩ (by omega) ⟨by omega, hw, by omega, by omega⟩
  · repeat' (first | (show CW _ _ _ _ _ _; first | refine CW.seq ?_ | refine CW.region ?_ | refine CW.condd_f rfl (by omega) ?_ | refine CW.ret ?_ | refine CW.exit ?_) | (show Post _ _ _ _ _; first | refine Post.seq ?_ | refine Post.seq_exit ?_ | refine Post.hit ?_ | refine Post.again_exit ?_) | refine SW.nil ?_ | refine SW.pure rfl rfl ?_ | (show SW _ _ _ _ (⟨_, Op.call ⟨.builtin .len, _, _⟩, _, _, _, none⟩ :: _) _ _; refine SW.st (st_len rfl) rfl ?_))
    refine Post.ret1 rfl rfl ⟨_, rfl, hw, ?_⟩
    rw [List.take_of_length_le (by have := hl.len; omega)]

theorem ZPages_ans (r : ZRow) (z : Zone) (w : World) (hr : RdZ w r z) (hf : r.Free.n ≤ 100000000000000000) (ht : r.Types.n ≤ 1000000000000000000) (h1 : -9223372036854775808 ≤ r.From ∧ r.From ≤ 9223372036854775807) (h2 : -9223372036854775808 ≤ r.To ∧ r.To ≤ 9223372036854775807) :
    Ans Try.prog 31 [.agg (encZ r).toArray] w fun v _ => v = .tuple #[.int .i64 (pagesV z).1, .int .i64 (pagesV z).2] := by
  refine ans_of Try.func31 rfl Try.ntmps31 rfl ?_
  refine CW.seq (CW.region (SW.box rfl rfl fun b1 w1 hw hb1b hb1 => ?_))
  have hFl := hr.free.len
  obtain ⟨q, hq⟩ : ∃ q, zoneB z = q := ⟨_, rfl⟩
  have c1 : ∀ w', Ext w w' → Ans Try.prog 27 [.agg (encZ r).toArray] w' fun v _ => v = .int .i64 (if q then 0 else 8) := fun w' h => by
    have := Zcheck_ans r z w' (hr.ext h) (by omega) (by omega) h1 h2
    rwa [hq] at this
  cases q
  · have e : pagesV z = (0, 8) := by simp [pagesV, hq]
    rw [e]
    simp only [Bool.false_eq_true, if_false] at c1
    repeat' (first | (show CW _ _ _ _ _ _; first | refine CW.seq ?_ | refine CW.region ?_ | refine CW.condn_t rfl (by omega) ?_ | refine CW.ret ?_) | (show Post _ _ _ _ _; first | refine Post.seq ?_ | refine Post.seq_ret ?_) | refine SW.nil ?_ | refine SW.pure rfl rfl ?_ | (show SW _ _ _ _ (⟨_, Op.load _ _, _, _, _, none⟩ :: _) _ _; refine SW.st (st_loads rfl rfl ((fun _ _ => hb1.cell))) rfl ?_) | (show SW _ _ _ _ (⟨_, Op.call ⟨.value (.func _), _, _⟩, _, _, _, none⟩ :: _) _ _; (refine SW.call rfl rfl (c1 _ hw) ?_; intro v w1 hw1 hv; subst hv; replace hw := Ext.trans hw hw1; replace hb1 := hb1.ext hw1; clear hw1)))
    exact Post.ret2 rfl rfl rfl ⟨_, rfl, hw, rfl⟩
  · simp only [if_true] at c1
    have hz := zoneB_iff.1 hq
    have e : pagesV z = (pagesOf z.Free, 0) := by simp [pagesV, hq]
    rw [e]
    repeat' (first | (show CW _ _ _ _ _ _; first | refine CW.seq ?_ | refine CW.region ?_ | refine CW.block ?_ | refine CW.condn_f rfl (by omega) ?_ | refine CW.skip ?_) | (show Post _ _ _ _ _; refine Post.seq ?_) | refine SW.nil ?_ | refine SW.pure rfl rfl ?_ | (show SW _ _ _ _ (⟨_, Op.fieldAddr _ _ _, _, _, _, none⟩ :: _) _ _; refine SW.st (st_field rfl) rfl ?_) | (show SW _ _ _ _ (⟨_, Op.call ⟨.builtin .len, _, _⟩, _, _, _, none⟩ :: _) _ _; refine SW.st (st_len rfl) rfl ?_) | (show SW _ _ _ _ (⟨_, Op.load _ _, _, _, _, none⟩ :: _) _ _; first | refine SW.st (st_loads rfl rfl ((fun _ _ => hb1.cell))) rfl ?_ | refine SW.st (st_load rfl (hb1.cell rfl)) rfl ?_) | (show SW _ _ _ _ (⟨_, Op.call ⟨.value (.func _), _, _⟩, _, _, _, none⟩ :: _) _ _; (refine SW.call rfl rfl (c1 _ hw) ?_; intro v w1 hw1 hv; subst hv; replace hw := Ext.trans hw hw1; replace hb1 := hb1.ext hw1; clear hw1)))
    refine CW.loop (fun k : Nat => [(5, .int .i64 (pagesOf (z.Free.take k))), (14, .slice r.Free.A r.Free.n r.Free.c), (15, .int .i64 (r.Free.n : Int)), (16, .int .i64 (k : Int))]) (fun k w' => k ≤ r.Free.n ∧ Ext w w') (fun k => r.Free.n - k) 0 ⟨rfl, rfl, rfl, rfl, trivial⟩ ⟨by omega, hw⟩ ?_
    clear hw hb1
    rintro k w' ⟨hk, hw⟩
    have hA := hr.free.base
    by_cases hkn : k < r.Free.n
    · have hkl := hr.free.lt hkn
      obtain ⟨f1, f2, _⟩ := (hz.blk k hkl).1
      have hp := pw_le f1 f2
      have et := pagesOf_take z.Free k hkl
      have hs := pagesOf_bound hz k (by omega)
      repeat' (first | (show CW _ _ _ _ _ _; first | refine CW.seq ?_ | refine CW.region ?_ | refine CW.block ?_ | refine CW.condd_t rfl (by omega) ?_ | refine CW.skip ?_) | (show Post _ _ _ _ _; refine Post.seq ?_) | refine SW.nil ?_ | refine SW.pure rfl rfl ?_ | (show SW _ _ _ _ (⟨_, Op.indexAddr _ _ _, _, _, _, none⟩ :: _) _ _; refine SW.st (st_indexN rfl rfl (by assumption) (by omega)) rfl ?_) | (show SW _ _ _ _ (⟨_, Op.load _ _, _, _, _, none⟩ :: _) _ _; refine SW.st (st_loadsx hw rfl rfl ((hr.free.all hkn))) rfl ?_))
      refine SW.alloc rfl fun b7 w3 hw3 hb7b hb7 => ?_
      have hb7w : w.heap.size ≤ b7 := Nat.le_trans hw.size hb7b
      replace hw := Ext.trans hw hw3
      skip
      refine SW.storeAgg hb7 rfl rfl rfl rfl (Enc.one (enc := encBk) _) fun w4 hb7' hg => ?_
      replace hw := hw.own hb7w hg
      repeat' (first | (show CW _ _ _ _ _ _; refine CW.region ?_) | (show Post _ _ _ _ _; first | refine Post.seq ?_ | refine Post.blk ?_) | refine SW.nil ?_ | refine SW.pure rfl rfl ?_ | (show SW _ _ _ _ (⟨_, Op.fieldAddr _ _ _, _, _, _, none⟩ :: _) _ _; refine SW.st (st_field rfl) rfl ?_) | (show SW _ _ _ _ (⟨_, Op.binOp _ _ _ _ _, _, _, _, none⟩ :: _) _ _; refine SW.st (st_add rfl rfl (by omega) (by omega)) rfl ?_) | (show SW _ _ _ _ (⟨_, Op.load _ _, _, _, _, none⟩ :: _) _ _; refine SW.st (st_load rfl (hb7'.cell rfl)) rfl ?_) | (refine SW.st (st_shl (r := pw (z.Free[k]).Order) rfl rfl (by omega) (by omega) (by simp [pw]) (by omega) (by omega)) rfl ?_))
      exact Post.again (k + 1) ⟨by rw [et]; rfl, rfl, rfl, rfl, trivial⟩ (by omega) ⟨by omega, hw⟩
    · repeat' (first | (show CW _ _ _ _ _ _; first | refine CW.seq ?_ | refine CW.region ?_ | refine CW.condd_f rfl (by omega) ?_ | refine CW.ret ?_ | refine CW.exit ?_) | (show Post _ _ _ _ _; first | refine Post.seq ?_ | refine Post.seq_exit ?_ | refine Post.hit ?_ | refine Post.again_exit ?_) | refine SW.nil ?_ | refine SW.pure rfl rfl ?_)
      refine Post.ret2 rfl rfl rfl ⟨_, rfl, hw, ?_⟩
      rw [List.take_of_length_le (by omega)]

theorem ZPagesOf_ans (r : ZRow) (z : Zone) (w : World) (hr : RdZ w r z) (hf : r.Free.n ≤ 100000000000000000) (ht : r.Types.n ≤ 1000000000000000000) (h1 : -9223372036854775808 ≤ r.From ∧ r.From ≤ 9223372036854775807) (h2 : -9223372036854775808 ≤ r.To ∧ r.To ≤ 9223372036854775807) :
    Ans Try.prog 32 [.agg (encZ r).toArray] w fun v _ => v = .tuple #[.int .i64 (pagesV z).1, .int .i64 (pagesV z).2] := by
  refine ans_of Try.func32 rfl Try.ntmps32 rfl ?_
  refine CW.seq (CW.region (SW.box rfl rfl fun b1 w1 hw hb1b hb1 => ?_))
  obtain ⟨q, hq⟩ : ∃ q, zoneB z = q := ⟨_, rfl⟩
  have c2 : ∀ w', Ext w w' → Ans Try.prog 28 [.agg (encZ r).toArray] w' fun v _ => v = .bool q := fun w' h => by
    have := ZoneMay_ans r z w' (hr.ext h) (by omega) ht h1 h2
    rwa [hq] at this
  cases q
  · have e : pagesV z = (0, 8) := by simp [pagesV, hq]
    rw [e]
    repeat' (first | (show CW _ _ _ _ _ _; first | refine CW.seq ?_ | refine CW.region ?_ | refine CW.condt rfl ?_ | refine CW.ret ?_) | (show Post _ _ _ _ _; first | refine Post.seq ?_ | refine Post.seq_ret ?_) | refine SW.nil ?_ | refine SW.pure rfl rfl ?_ | (show SW _ _ _ _ (⟨_, Op.load _ _, _, _, _, none⟩ :: _) _ _; refine SW.st (st_loads rfl rfl ((fun _ _ => hb1.cell))) rfl ?_) | (show SW _ _ _ _ (⟨_, Op.call ⟨.value (.func _), _, _⟩, _, _, _, none⟩ :: _) _ _; (refine SW.call rfl rfl (c2 _ hw) ?_; intro v w1 hw1 hv; subst hv; replace hw := Ext.trans hw hw1; replace hb1 := hb1.ext hw1; clear hw1)))
    exact Post.ret2 rfl rfl rfl ⟨_, rfl, hw, rfl⟩
  · have hz := zoneB_iff.1 hq
    have e : pagesV z = (pagesOf z.Free, 0) := by simp [pagesV, hq]
    rw [e]
    have hok : ∀ b ∈ z.Free, 0 ≤ b.Order ∧ b.Order ≤ 4 := fun b hb => by
      obtain ⟨i, hi, rfl⟩ := List.getElem_of_mem hb
      exact ⟨(hz.blk i hi).1.1, (hz.blk i hi).1.2.1⟩
    repeat' (first | (show CW _ _ _ _ _ _; first | refine CW.seq ?_ | refine CW.region ?_ | refine CW.condf rfl ?_ | refine CW.skip ?_ | refine CW.ret ?_) | (show Post _ _ _ _ _; refine Post.seq ?_) | refine SW.nil ?_ | refine SW.pure rfl rfl ?_ | (show SW _ _ _ _ (⟨_, Op.fieldAddr _ _ _, _, _, _, none⟩ :: _) _ _; refine SW.st (st_field rfl) rfl ?_) | (show SW _ _ _ _ (⟨_, Op.load _ _, _, _, _, none⟩ :: _) _ _; first | refine SW.st (st_loads rfl rfl ((fun _ _ => hb1.cell))) rfl ?_ | refine SW.st (st_load rfl (hb1.cell rfl)) rfl ?_) | (show SW _ _ _ _ (⟨_, Op.call ⟨.value (.func _), _, _⟩, _, _, _, none⟩ :: _) _ _; first | (refine SW.call rfl rfl (c2 _ hw) ?_; intro v w1 hw1 hv; subst hv; replace hw := Ext.trans hw hw1; replace hb1 := hb1.ext hw1; clear hw1) | (refine SW.call rfl rfl (freeOf_ans _ _ _ _ _ (hr.free.ext hw) hok hf) ?_; intro v w1 hw1 hv; subst hv; replace hw := Ext.trans hw hw1; replace hb1 := hb1.ext hw1; clear hw1)))
    exact Post.ret2 rfl rfl rfl ⟨_, rfl, hw, rfl⟩

theorem buddyPages_ans (r : ZRow) (z : Zone) (w : World) (hr : RdZ w r z) (hf : r.Free.n ≤ 100000000000000000) (ht : r.Types.n ≤ 1000000000000000000) (h1 : -9223372036854775808 ≤ r.From ∧ r.From ≤ 9223372036854775807) (h2 : -9223372036854775808 ≤ r.To ∧ r.To ≤ 9223372036854775807) :
    Ans Try.prog 7 [.agg (encZ r).toArray] w fun v _ => v = .bool true := by
  refine ans_of Try.func7 rfl Try.ntmps7 rfl ?_
  refine CW.seq (CW.region (SW.box rfl rfl fun b1 w1 hw hb1b hb1 => ?_))
  repeat' (first | (show CW _ _ _ _ _ _; first | refine CW.seq ?_ | refine CW.region ?_ | refine CW.ret ?_) | (show Post _ _ _ _ _; refine Post.seq ?_) | refine SW.nil ?_ | (show SW _ _ _ _ (⟨_, _, _, _, _, some _⟩ :: _) _ _; first | refine SW.want_t rfl rfl (by with_reducible rfl) ?_ | refine SW.splitd_t rfl rfl rfl (by omega) ?_) | refine SW.pure rfl rfl ?_ | (show SW _ _ _ _ (⟨_, Op.load _ _, _, _, _, none⟩ :: _) _ _; refine SW.st (st_loads rfl rfl ((fun _ _ => hb1.cell))) rfl ?_) | (show SW _ _ _ _ (⟨_, Op.call ⟨.value (.func _), _, _⟩, _, _, _, none⟩ :: _) _ _; first | (refine SW.call rfl rfl (ZPages_ans r z _ (hr.ext hw) hf ht h1 h2) ?_; intro v w1 hw1 hv; subst hv; replace hw := Ext.trans hw hw1; replace hb1 := hb1.ext hw1; clear hw1) | (refine SW.call rfl rfl (ZPagesOf_ans r z _ (hr.ext hw) hf ht h1 h2) ?_; intro v w1 hw1 hv; subst hv; replace hw := Ext.trans hw hw1; replace hb1 := hb1.ext hw1; clear hw1)))
  all_goals first | (exfalso; omega) | skip
  exact Post.ret1 rfl rfl ⟨_, rfl, hw, by simp⟩
end Go.Proofs.Ytfdmgflboibdoaa

/-
  How a heap and an error number are answered.
-/
set_option linter.unusedVariables false
namespace Go.Proofs.Ytfdmgflboibdoaa

def HeapOut (lo : Nat) (o : Int × Heap) (v : Value) (w : World) : Prop := ∃ s : HRow, v = .tuple #[.agg (encH s).toArray, .int .i64 o.1] ∧ OwnH w lo s o.2
theorem HeapOut.zero (e : Int) (lo : Nat) (w : World) : HeapOut lo (e, ⟨[], [], 0, [], []⟩) (.tuple #[.agg (encH .zero).toArray, .int .i64 e]) w := ⟨.zero, rfl, OwnH.zero w lo⟩
theorem All2.two {α β : Type} {R : α → β → Prop} {a b : α} {c d : β} (h1 : R a c) (h2 : R b d) : All2 R [a, b] [c, d] := All2.snoc (All2.snoc All2.nil h1) h2
end Go.Proofs.Ytfdmgflboibdoaa
