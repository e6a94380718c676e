/-
  Texts of the claim PagesAllocs, part 25: what its theorem leans on.
-/
import Derived.Test.YtfommgdbahemfaaDoorPackPagesAllocs22
set_option linter.unusedVariables false
set_option linter.unusedSimpArgs false
namespace Go.Proofs.YtfommgdbahemfaaDoor
open Go.RowKit
set_option maxHeartbeats 2000000 in
theorem emptied_ans (h : Heap) (z0 z1 : Zone) (hd : DHeap h z0 z1) (hs : h.small) (m : Sli) (cp : Int) (li lv : Sli) (ls : List LRow) (u0 u1 : ZRow) (g c : Nat) (w w0 : World) (hw : Ext w w0)
  (hZ : ZsOwn w0 w.heap.size g c u0 u1 (z0, z1)) (hR : RestH w0 w.heap.size m li lv ls h) :
  AnsX Tryd.prog 50 [.agg (encH ⟨⟨some ⟨g, 0, none⟩, 2, c⟩, m, cp, li, lv⟩).toArray] w0 fun v w' => v = .agg (encH ⟨⟨some ⟨g, 0, none⟩, 2, c⟩, m, cp, .nil, lv⟩).toArray ∧ Ext w w' ∧ G2 w0 w' g g ∧ RestH w' w.heap.size m li lv ls h ∧ ∃ u0 u1, ZsOwn w' w.heap.size g c u0 u1 (backAll (z0, z1) (pagesB h.Lists)) := by
 refine ansx_of Tryd.func50 rfl Tryd.ntmps50 rfl ?_
 have hgw : w.heap.size ≤ g := hZ.glo
 have hE := G2.refl w0 g g
 have hll := hR.lists.rd.len
 have s4 := hs.lists
 refine CW.seq (CW.region (SW.box rfl rfl fun b1 w1 hXX hb1b hb1 => ?_))
 have hb1w : w.heap.size ≤ b1 := Nat.le_trans hw.size hb1b
 have hb1v := hb1b
 (replace hw := Ext.trans hw hXX; replace hZ := hZ.ext hXX; replace hR := hR.ext hXX; replace hE := hE.ext hXX)
 refine SW.alloc rfl fun b2 w2 hw2 hb2b hb2 => ?_
 have hb2w : w.heap.size ≤ b2 := Nat.le_trans hw.size hb2b
 have hb2v : w0.heap.size ≤ b2 := Nat.le_trans hXX.size hb2b
 have hne : b1 ≠ b2 := by have := hb1.lt; omega
 (replace hw := Ext.trans hw hw2; replace hb1 := hb1.ext hw2; replace hZ := hZ.ext hw2; replace hR := hR.ext hw2; replace hE := hE.ext hw2)
 repeat' (first | (show CW _ _ _ _ _ _; first | refine CW.seq ?_ | refine CW.region ?_ | refine CW.block ?_) | (show Post _ _ _ _ _; refine Post.seq ?_) | refine SW.nil ?_ | refine SW.pure rfl rfl ?_)
 refine CW.loop (fun t : Nat × ZRow × ZRow => [(1, .pointer (some ⟨b1, 0, none⟩)), (2, .pointer (some ⟨b2, 0, none⟩)), (3, .int .i64 (t.1 : Int))])
  (fun t w' => t.1 ≤ li.n ∧ Ext w w' ∧ G2 w0 w' g g ∧ Blk w' b1 35 (encH ⟨⟨some ⟨g, 0, none⟩, 2, c⟩, m, cp, li, lv⟩) ∧ Blk w' b2 35 (encH .zero) ∧ ZsOwn w' w.heap.size g c t.2.1 t.2.2 (backTo h z0 z1 (cntB h.Lists t.1)) ∧ RestH w' w.heap.size m li lv ls h) (fun t => li.n - t.1) (0, u0, u1)
  ⟨rfl, rfl, rfl, trivial⟩ ⟨by omega, hw, hE, hb1, hb2, by simpa [backTo, cntB, pagesB, backAll] using hZ, hR⟩ ?_
 clear hw hE hb1 hb2 hZ hR hb1b hb2b
 rintro ⟨i, u0, u1⟩ w' ⟨hi, hw, hE, hb1, hb2, hZ, hR⟩
 simp only at hi hZ ⊢
 by_cases hin : i < li.n
 ·have hil : i < h.Lists.length := by omega
  have hils : i < ls.length := by omega
  have hpl := (hR.lists.each.get i hils hil).pages.sl.len
  have hsp := hs.pages _ (List.getElem_mem hil)
  repeat' (first | (show CW _ _ _ _ _ _; first | refine CW.seq ?_ | refine CW.region ?_ | refine CW.block ?_ | refine CW.condd_t rfl (by omega) ?_ | refine CW.skip ?_) | (show Post _ _ _ _ _; refine Post.seq ?_) | refine SW.nil ?_ | refine SW.pure rfl rfl ?_ | (show SW _ _ _ _ (⟨_, Op.fieldAddr _ _ _, _, _, _, none⟩ :: _) _ _; refine SW.st (st_field rfl) rfl ?_) | (show SW _ _ _ _ (⟨_, Op.call ⟨.builtin .len, _, _⟩, _, _, _, none⟩ :: _) _ _; refine SW.st (st_len rfl) rfl ?_) | (show SW _ _ _ _ (⟨_, Op.load _ _, _, _, _, none⟩ :: _) _ _; refine SW.st (st_load rfl (hb1.cell (i := 3) (v := .slice li.A li.n li.c) rfl)) rfl ?_))
  refine CW.loop (fun t : Nat × ZRow × ZRow => [(1, .pointer (some ⟨b1, 0, none⟩)), (2, .pointer (some ⟨b2, 0, none⟩)), (3, .int .i64 (i : Int)), (4, .int .i64 (t.1 : Int))])
   (fun t w' => t.1 ≤ ls[i].Pages.n ∧ Ext w w' ∧ G2 w0 w' g g ∧ Blk w' b1 35 (encH ⟨⟨some ⟨g, 0, none⟩, 2, c⟩, m, cp, li, lv⟩) ∧ Blk w' b2 35 (encH .zero) ∧ ZsOwn w' w.heap.size g c t.2.1 t.2.2 (backTo h z0 z1 (cntB h.Lists i + t.1)) ∧ RestH w' w.heap.size m li lv ls h) (fun t => ls[i].Pages.n - t.1) (0, u0, u1)
   ⟨rfl, rfl, rfl, rfl, trivial⟩ ⟨by omega, hw, hE, hb1, hb2, hZ, hR⟩ ?_
  clear hw hE hb1 hb2 hZ hR
  rintro ⟨j, u0, u1⟩ w' ⟨hj, hw, hE, hb1, hb2, hZ, hR⟩
  simp only at hj hZ ⊢
  have hpg := hR.lists.each.get i hils hil
  have hpA := hpg.pages.sl.base
  have hA := hR.lists.row.sl.base
  have f3 := hR.lists.row.sl.fld hin (j := 3) (u := .slice ls[i].Pages.A ls[i].Pages.n ls[i].Pages.c) rfl
  by_cases hjn : j < ls[i].Pages.n
  ·have hjl : j < h.Lists[i].Pages.length := by omega
   obtain ⟨hK, hKe⟩ := cnt_get hil hjl
   have hN := hd.next hK
   have hD := hd.inv (cntB h.Lists i + j) (by omega)
   have hT := backAll_take (z0, z1) (pagesB h.Lists) _ hK
   rw [hKe] at hN hT
   have hT' : backTo h z0 z1 (cntB h.Lists i + (j + 1)) = backP (backTo h z0 z1 (cntB h.Lists i + j)) (pageB h.Lists[i].Pages[j]) := hT
   repeat' (first | (show CW _ _ _ _ _ _; first | refine CW.seq ?_ | refine CW.region ?_ | refine CW.block ?_ | refine CW.condd_t rfl (by omega) ?_ | refine CW.skip ?_) | (show Post _ _ _ _ _; refine Post.seq ?_) | refine SW.nil ?_ | refine SW.pure rfl rfl ?_ | (show SW _ _ _ _ (⟨_, Op.fieldAddr _ _ _, _, _, _, none⟩ :: _) _ _; refine SW.st (st_field rfl) rfl ?_) | (show SW _ _ _ _ (⟨_, Op.indexAddr _ _ _, _, _, _, none⟩ :: _) _ _; refine SW.st (st_indexN rfl rfl (by assumption) (by omega)) rfl ?_) | (show SW _ _ _ _ (⟨_, Op.call ⟨.builtin .len, _, _⟩, _, _, _, none⟩ :: _) _ _; refine SW.st (st_len rfl) rfl ?_) | (show SW _ _ _ _ (⟨_, Op.load _ _, _, _, _, none⟩ :: _) _ _; first | refine SW.st (st_load rfl (hb1.cell (i := 3) (v := .slice li.A li.n li.c) rfl)) rfl ?_ | refine SW.st (st_load rfl f3) rfl ?_))
   refine CW.any 10 mixed (rb_tail (by kernel_rfl)) rfl fun w1 hw1 hRB => ?_
   replace hw := Ext.trans hw hw1; replace hb1 := hb1.ext hw1; replace hb2 := hb2.ext hw1; replace hZ := hZ.ext hw1; replace hR := hR.ext hw1; replace hE := hE.ext hw1; clear hw1
   refine SA.take 0 hRB rfl (by kernel_rfl) (by kernel_rfl) rfl ?_
   repeat ((show SW _ _ _ _ (⟨_, Op.load _ _, _, _, _, none⟩ :: _) _ _; refine SW.st (st_loads rfl rfl ((fun _ _ => hb1.cell))) rfl ?_))
   refine SW.tknil ?_
   refine SA.take 1 hRB rfl (by kernel_rfl) (by kernel_rfl) rfl ?_
   repeat ((show SW _ _ _ _ (⟨_, Op.fieldAddr _ _ _, _, _, _, none⟩ :: _) _ _; refine SW.st (st_field rfl) rfl ?_))
   refine SW.tknil ?_
   refine SA.take 2 hRB rfl (by kernel_rfl) (by kernel_rfl) rfl ?_
   repeat ((show SW _ _ _ _ (⟨_, Op.load _ _, _, _, _, none⟩ :: _) _ _; refine SW.st (st_load rfl (hb1.cell (i := 3) (v := .slice li.A li.n li.c) rfl)) rfl ?_))
   refine SW.tknil ?_
   refine SA.take 3 hRB rfl (by kernel_rfl) (by kernel_rfl) rfl ?_
   repeat (refine SW.pure rfl rfl ?_)
   refine SW.tknil ?_
   refine SA.take 4 hRB rfl (by kernel_rfl) (by kernel_rfl) rfl ?_
   repeat ((show SW _ _ _ _ (⟨_, Op.indexAddr _ _ _, _, _, _, none⟩ :: _) _ _; refine SW.st (st_indexN rfl rfl (by assumption) (by omega)) rfl ?_))
   refine SW.tknil ?_
   refine SA.take 5 hRB rfl (by kernel_rfl) (by kernel_rfl) rfl ?_
   repeat ((show SW _ _ _ _ (⟨_, Op.fieldAddr _ _ _, _, _, _, none⟩ :: _) _ _; refine SW.st (st_field rfl) rfl ?_))
   refine SW.tknil ?_
   refine SA.take 6 hRB rfl (by kernel_rfl) (by kernel_rfl) rfl ?_
   repeat ((show SW _ _ _ _ (⟨_, Op.load _ _, _, _, _, none⟩ :: _) _ _; refine SW.st (st_load rfl (hR.lists.row.sl.fld hin (j := 3) (u := .slice ls[i].Pages.A ls[i].Pages.n ls[i].Pages.c) rfl)) rfl ?_))
   refine SW.tknil ?_
   refine SA.take 7 hRB rfl (by kernel_rfl) (by kernel_rfl) rfl ?_
   repeat (refine SW.pure rfl rfl ?_)
   refine SW.tknil ?_
   refine SA.take 8 hRB rfl (by kernel_rfl) (by kernel_rfl) rfl ?_
   repeat ((show SW _ _ _ _ (⟨_, Op.indexAddr _ _ _, _, _, _, none⟩ :: _) _ _; refine SW.st (st_indexN rfl rfl (by assumption) (by omega)) rfl ?_))
   refine SW.tknil ?_
   refine SA.take 9 hRB rfl (by kernel_rfl) (by kernel_rfl) rfl ?_
   repeat ((show SW _ _ _ _ (⟨_, Op.load _ _, _, _, _, none⟩ :: _) _ _; refine SW.st (st_load rfl ((hR.lists.each.get i hils hil).pages.sl.one hjn rfl)) rfl ?_))
   refine SW.tknil ?_
   refine SA.done (by kernel_rfl) ?_
   refine SW.callX rfl rfl (returned_ans m cp li lv u0 u1 _ _ (pageB h.Lists[i].Pages[j]) w.heap.size g c _ hZ hw.size hD hN) fun v w5 hv => ?_
   obtain ⟨rfl, hg, u2, u3, hZ'⟩ := hv
   have hG := hZ.gr hg
   replace hw := hw.own hgw hg
   replace hE := hE.at_g hg
   replace hb1 := hb1.grT hG rfl
   replace hb2 := hb2.grT hG rfl
   replace hR := hR.grT hG rfl
   refine SW.storeAgg hb1 rfl rfl rfl rfl (one_h ⟨⟨some ⟨g, 0, none⟩, 2, c⟩, m, cp, li, lv⟩) fun w6 hb1' hg' => ?_
   have hG' := hb1.gr hg'
   replace hw := hw.own hb1w hg'
   replace hE := hE.new hg' hb1v
   replace hZ' := hZ'.grT hG' rfl
   replace hR := hR.grT hG' rfl
   replace hb2 := hb2.grown hg' (by simpa using Ne.symm hne)
   repeat' (first | (show CW _ _ _ _ _ _; refine CW.region ?_) | (show Post _ _ _ _ _; first | refine Post.seq ?_ | refine Post.blk ?_ | refine Post.np ?_) | refine SW.nil ?_ | refine SW.pure rfl rfl ?_ | (show SW _ _ _ _ (⟨_, Op.binOp _ _ _ _ _, _, _, _, none⟩ :: _) _ _; refine SW.st (st_add rfl rfl (by omega) (by omega)) rfl ?_))
   refine Post.again (j + 1, u2, u3) ⟨rfl, rfl, rfl, rfl, trivial⟩ (by simp only; omega) ⟨by simp only; omega, hw, hE, hb1', hb2, ?_, hR⟩
   simp only
   rw [hT']
   exact hZ'
  ·have ej : cntB h.Lists i + j = cntB h.Lists (i + 1) := by rw [cnt_succ hil]; omega
   rw [ej] at hZ
   repeat' (first | (show CW _ _ _ _ _ _; first | refine CW.seq ?_ | refine CW.region ?_ | refine CW.condd_f rfl (by omega) ?_ | refine CW.exit ?_) | (show Post _ _ _ _ _; first | refine Post.seq ?_ | refine Post.seq_exit ?_ | refine Post.hit ?_ | refine Post.blk ?_ | refine Post.again_exit ?_) | refine SW.nil ?_ | refine SW.pure rfl rfl ?_ | (show SW _ _ _ _ (⟨_, Op.fieldAddr _ _ _, _, _, _, none⟩ :: _) _ _; refine SW.st (st_field rfl) rfl ?_) | (show SW _ _ _ _ (⟨_, Op.binOp _ _ _ _ _, _, _, _, none⟩ :: _) _ _; refine SW.st (st_add rfl rfl (by omega) (by omega)) rfl ?_) | (show SW _ _ _ _ (⟨_, Op.indexAddr _ _ _, _, _, _, none⟩ :: _) _ _; refine SW.st (st_indexN rfl rfl (by assumption) (by omega)) rfl ?_) | (show SW _ _ _ _ (⟨_, Op.call ⟨.builtin .len, _, _⟩, _, _, _, none⟩ :: _) _ _; refine SW.st (st_len rfl) rfl ?_) | (show SW _ _ _ _ (⟨_, Op.load _ _, _, _, _, none⟩ :: _) _ _; first | refine SW.st (st_load rfl (hb1.cell (i := 3) (v := .slice li.A li.n li.c) rfl)) rfl ?_ | refine SW.st (st_load rfl f3) rfl ?_))
   exact Post.again (i + 1, u0, u1) ⟨rfl, rfl, rfl, trivial⟩ (by simp only; omega) ⟨by simp only; omega, hw, hE, hb1, hb2, hZ, hR⟩
 ·have ei : i = h.Lists.length := by omega
  have eall : backTo h z0 z1 (cntB h.Lists i) = backAll (z0, z1) (pagesB h.Lists) := by
   rw [ei, cnt_all, backTo, List.take_of_length_le (Nat.le_refl _)]
  rw [eall] at hZ
  repeat' (first | (show CW _ _ _ _ _ _; first | refine CW.seq ?_ | refine CW.region ?_ | refine CW.condd_f rfl (by omega) ?_ | refine CW.exit ?_) | (show Post _ _ _ _ _; first | refine Post.seq ?_ | refine Post.seq_exit ?_ | refine Post.hit ?_ | refine Post.again_exit ?_) | refine SW.nil ?_ | refine SW.pure rfl rfl ?_ | (show SW _ _ _ _ (⟨_, Op.fieldAddr _ _ _, _, _, _, none⟩ :: _) _ _; refine SW.st (st_field rfl) rfl ?_) | (show SW _ _ _ _ (⟨_, Op.call ⟨.builtin .len, _, _⟩, _, _, _, none⟩ :: _) _ _; refine SW.st (st_len rfl) rfl ?_) | (show SW _ _ _ _ (⟨_, Op.load _ _, _, _, _, none⟩ :: _) _ _; refine SW.st (st_load rfl (hb1.cell (i := 3) (v := .slice li.A li.n li.c) rfl)) rfl ?_))
  refine SW.storeB (i := 3) hb1 rfl rfl rfl rfl fun w6 hb1' hg => ?_
  have hG := hb1.gr hg
  replace hw := hw.own hb1w hg
  replace hE := hE.new hg hb1v
  replace hb2 := hb2.grown hg (by simpa using Ne.symm hne)
  replace hR := hR.grT hG rfl
  replace hZ := hZ.grT hG rfl
  repeat' (first | (show CW _ _ _ _ _ _; first | refine CW.seq ?_ | refine CW.region ?_) | (show Post _ _ _ _ _; refine Post.seq ?_) | refine SW.nil ?_ | (show SW _ _ _ _ (⟨_, Op.load _ _, _, _, _, none⟩ :: _) _ _; refine SW.st (st_loads rfl rfl ((fun _ _ => hb1'.cell))) rfl ?_))
  refine SW.storeAgg hb2 rfl rfl rfl rfl (one_h ⟨⟨some ⟨g, 0, none⟩, 2, c⟩, m, cp, .nil, lv⟩) fun w7 hR2 hg => ?_
  have hG := hb2.gr hg
  replace hw := hw.own hb2w hg
  repeat' (first | (show CW _ _ _ _ _ _; refine CW.ret ?_) | (show Post _ _ _ _ _; refine Post.seq ?_) | refine SW.nil ?_)
  exact Post.ret1c rfl rfl hR2 rfl ⟨_, rfl, rfl, hw, hE.new hg hb2v, hR.grT hG rfl, u0, u1, hZ.grT hG rfl⟩
end Go.Proofs.YtfommgdbahemfaaDoor
