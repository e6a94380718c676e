/-
  Texts of the claim SlabShrinks, part 25: what its theorem leans on.
-/
import Derived.Test.YtigikedbffjeiaaGreatPackSlabShrinks13
import Derived.Test.YtigikedbffjeiaaGreatPackSlabShrinks24
import Derived.Test.YtigikedbffjeiaaGreatPackSlabShrinks23
import Derived.Test.YtigikedbffjeiaaGreatPackSlabShrinks4
set_option linter.unusedVariables false
set_option linter.unusedSimpArgs false
namespace Go.Proofs.YtigikedbffjeiaaGreat
open Go.RowKit
theorem erase_take_ne {α : Type} {l : List α} {j k : Nat} (hj : j < l.length) (h : j ≠ k) : (l.take (j + 1)).eraseIdx k = (l.take j).eraseIdx k ++ [l[j]] := by
 rw [List.take_succ_eq_append_getElem hj]
 rcases Nat.lt_or_gt_of_ne h with g | g
 ·rw [List.eraseIdx_of_length_le (by simp; omega), List.eraseIdx_of_length_le (by simp; omega)]
 ·rw [List.eraseIdx_append_of_lt_length (by simp; omega)]
theorem erase_take_eq {α : Type} {l : List α} {k : Nat} (hk : k < l.length) : (l.take (k + 1)).eraseIdx k = (l.take k).eraseIdx k := by
 have e : (l.take k).length = k := by simp; omega
 have h1 : (l.take k).eraseIdx k = l.take k := List.eraseIdx_of_length_le (by omega)
 rw [h1, List.take_succ_eq_append_getElem hk, List.eraseIdx_append_of_length_le (by omega), e, Nat.sub_self]
 simp
set_option maxHeartbeats 4000000 in
theorem dropSlab_ans (wb w0 : World) (r : SRow) (s : KSystem) (cs : List CRow) (i k : Nat) (p : Heap × KCache) (cpu : Int)
  (hx : Ext wb w0) (hS : SX w0 wb.heap.size r (sysAt s i p) cs) (hi : i < s.Caches.length) (hn : s.Caches.length ≤ 1000000) (hk : k < p.2.Slabs.length) (h1 : HOk p.1) (h2 : COk p.2) :
  AnsX Tryz.prog 28 [.agg (encSys r).toArray, .int .i64 (i : Int), .int .i64 (k : Int), .int .i64 cpu] w0 fun v w' => ∃ H cs', v = .agg (encSys ⟨r.Words, H, r.Caches⟩).toArray ∧ Ext wb w' ∧ SX w' wb.heap.size ⟨r.Words, H, r.Caches⟩ (sysAt s i ((freeV p.1 cpu p.2.Slabs[k].At).2, cutSlab p.2 k)) cs' ∧ w0.grownBy w' (ownB r.Caches.A r.Caches.c) := by
 refine ansx_of Tryz.func28 rfl Tryz.ntmps28 rfl ?_
 refine CW.seq (CW.region (SW.box rfl rfl fun b4 w1 hw hb4b hb4 => ?_))
 refine SW.alloc rfl fun b8 w3 hw3 hb8b hb8 => ?_
 have hb8w : w0.heap.size ≤ b8 := Nat.le_trans hw.size hb8b
 have hne48 : b4 ≠ b8 := by have := hb4.lt; omega
 (replace hw := Ext.trans hw hw3; replace hb4 := hb4.ext hw3)
 obtain ⟨e1, e2⟩ := hS.rows
 have hic : i < cs.length := by omega
 have hin : i < r.Caches.n := by omega
 have hAc := hS.row.sl.base
 have hC := hS.get hic hi
 have q1 := hC.slabs.len
 have q2 := h2.small.slabs
 have hks : k < cs[i].Slabs.n := by omega
 have hAs := hC.slabs.sl.base
 have hat := h2.at_ _ (List.getElem_mem hk)
 obtain ⟨x, hxk⟩ : ∃ x, p.2.Slabs[k] = x := ⟨_, rfl⟩
 have gA := hC.slabs.sl.fld hks (j := 0) (show (encSb (p.2.Slabs[k]'(by omega)))[0]? = some (Value.int .i64 x.At) by rw [hxk]; rfl)
 rw [hxk] at hat ⊢
 obtain ⟨u, hu⟩ : ∃ u, cs[i] = u := ⟨_, rfl⟩
 have gS := hS.row.sl.fld hin (j := 4) (show (encC cs[i])[4]? = some (Value.slice u.Slabs.A u.Slabs.n u.Slabs.c) by rw [hu]; rfl)
 rw [hu] at hC q1 hks hAs gA
 try simp only at hC q1
 have hSl := hC.slabs.sl
 have hS0 := hS
 replace hS := hS.ext hw
 repeat' (first | (refine CW.seq ?_) | (refine Post.seq ?_) | refine SW.nil ?_)
 refine CW.anyF 18 19 (fun _ => True) mixed (by kernel_rfl) fun w1 hw1 hRB => ?_
 replace hw := Ext.trans hw hw1; replace hb4 := hb4.ext hw1; replace hb8 := hb8.ext hw1; replace hS := hS.ext hw1; clear hw1
 refine SF.take 0 [] [] hRB rfl (by kernel_rfl) (by kernel_rfl) (by kernel_rfl) ?_
 repeat (refine SW.st (st_field rfl) rfl ?_)
 refine SW.tknil ?_
 refine SF.take 1 [] [] hRB rfl (by kernel_rfl) (by kernel_rfl) (by kernel_rfl) ?_
 repeat ((show SW _ _ _ _ (⟨_, Op.load _ _, _, _, _, none⟩ :: _) _ _; refine SW.st (st_loads rfl rfl ((heapIn hb4))) rfl ?_))
 refine SW.tknil ?_
 refine SF.take 2 [] [] hRB rfl (by kernel_rfl) (by kernel_rfl) (by kernel_rfl) ?_
 repeat (refine SW.pure rfl rfl ?_)
 refine SW.tknil ?_
 refine SF.take 3 [] [] hRB rfl (by kernel_rfl) (by kernel_rfl) (by kernel_rfl) ?_
 repeat (refine SW.st (st_field rfl) rfl ?_)
 refine SW.tknil ?_
 refine SF.take 4 [] [] hRB rfl (by kernel_rfl) (by kernel_rfl) (by kernel_rfl) ?_
 repeat ((show SW _ _ _ _ (⟨_, Op.load _ _, _, _, _, none⟩ :: _) _ _; refine SW.st (st_load rfl (hb4.cell (i := 6) (v := .slice r.Caches.A r.Caches.n r.Caches.c) rfl)) rfl ?_))
 refine SW.tknil ?_
 refine SF.take 5 [] [] hRB rfl (by kernel_rfl) (by kernel_rfl) (by kernel_rfl) ?_
 repeat (refine SW.pure rfl rfl ?_)
 refine SW.tknil ?_
 refine SF.take 6 [] [] hRB rfl (by kernel_rfl) (by kernel_rfl) (by kernel_rfl) ?_
 repeat ((refine SW.st (st_indexN rfl rfl (by assumption) (by omega)) rfl ?_))
 refine SW.tknil ?_
 refine SF.take 7 [] [] hRB rfl (by kernel_rfl) (by kernel_rfl) (by kernel_rfl) ?_
 repeat (refine SW.st (st_field rfl) rfl ?_)
 refine SW.tknil ?_
 refine SF.take 8 [] [] hRB rfl (by kernel_rfl) (by kernel_rfl) (by kernel_rfl) ?_
 repeat ((show SW _ _ _ _ (⟨_, Op.load _ _, _, _, _, none⟩ :: _) _ _; refine SW.st (st_loadx hw rfl gS) rfl ?_))
 refine SW.tknil ?_
 refine SF.take 9 [] [] hRB rfl (by kernel_rfl) (by kernel_rfl) (by kernel_rfl) ?_
 repeat (refine SW.pure rfl rfl ?_)
 refine SW.tknil ?_
 refine SF.take 10 [] [] hRB rfl (by kernel_rfl) (by kernel_rfl) (by kernel_rfl) ?_
 repeat ((refine SW.st (st_indexN rfl rfl (by assumption) (by omega)) rfl ?_))
 refine SW.tknil ?_
 refine SF.take 11 [] [] hRB rfl (by kernel_rfl) (by kernel_rfl) (by kernel_rfl) ?_
 repeat (refine SW.st (st_field rfl) rfl ?_)
 refine SW.tknil ?_
 refine SF.take 12 [] [] hRB rfl (by kernel_rfl) (by kernel_rfl) (by kernel_rfl) ?_
 repeat ((show SW _ _ _ _ (⟨_, Op.load _ _, _, _, _, none⟩ :: _) _ _; refine SW.st (st_loadx hw rfl gA) rfl ?_))
 refine SW.tknil ?_
 refine SF.two 13 17 rfl rfl (by kernel_rfl) rfl rfl ?_ ?_
 ·refine SW.call rfl rfl (HeapFree_ans r.Heap p.1 cpu x.At _ hS.heap.rd h1.small h1.big hat) fun v w4 hXX hv => ?_
  obtain ⟨H, rfl, hH⟩ := hv
  replace hH := hH.low hw.size
  (replace hw := Ext.trans hw hXX; replace hb4 := hb4.ext hXX; replace hb8 := hb8.ext hXX; replace hS := hS.ext hXX)
  try replace hb9 := hb9.ext hXX
  refine SW.nil (Post.sf hXX ?_)
  refine SF.take 14 [] [] hRB rfl (by kernel_rfl) (by kernel_rfl) (by kernel_rfl) ?_
  repeat (refine SW.pure rfl rfl ?_)
  refine SW.tknil ?_
  refine SF.take 15 [] [] hRB rfl (by kernel_rfl) (by kernel_rfl) (by kernel_rfl) ?_
  repeat (refine SW.pure rfl rfl ?_)
  refine SW.tknil ?_
  refine SF.take2 16 [] hRB rfl (by kernel_rfl) (by kernel_rfl) (by kernel_rfl) (pureV_st rfl) (fun w2 hS => pureV_st rfl) rfl ?_
  refine SF.one 17 rfl (by kernel_rfl) rfl ?_
  refine SW.alloc rfl fun b9 w4 hXX hb9b hb9 => ?_
  have hb9w : w0.heap.size ≤ b9 := Nat.le_trans hw.size hb9b
  try replace hH := hH.ext hXX
  (replace hw := Ext.trans hw hXX; replace hb4 := hb4.ext hXX; replace hb8 := hb8.ext hXX; replace hS := hS.ext hXX)
  refine SW.nil (Post.sf hXX ?_)
  refine SF.turn rfl (by kernel_rfl) rfl ?_
  refine SW.storeAgg hb9 rfl rfl rfl rfl (one_h H) fun w5 hb9' hg => ?_
  have hG := hb9.gr hg
  replace hw := hw.own hb9w hg
  (replace hb4 := hb4.grT hG rfl; replace hb8 := hb8.grT hG rfl; replace hH := hH.grT hG rfl; replace hS := hS.grT hG rfl)
  replace hb9 := hb9'
  clear hb9' hg hG
  have hX8 := hS
  have hS : True := trivial
  refine SW.nil (Post.sg hS ?_)
  refine SG.last rfl (by kernel_rfl) (by kernel_rfl) ?_
  replace hS := hX8
  clear hX8
  repeat' (first | (first | refine CW.seq ?_ | refine CW.region ?_) | (first | refine Post.seq ?_ | refine Post.np ?_) | refine SW.nil ?_ | refine SW.pure rfl rfl ?_ | refine SW.st (st_field rfl) rfl ?_ | (show SW _ _ _ _ (⟨_, Op.load _ _, _, _, _, none⟩ :: _) _ _; refine SW.st (st_loads rfl rfl ((fun _ _ => hb9.cell))) rfl ?_))
  refine SW.storePart 1 hb4 rfl rfl rfl (Nat.le_of_ble_eq_true rfl) (one_h H) (encSys ⟨r.Words, H, r.Caches⟩) rfl fun w6 hb4' hg => ?_
  have hG := hb4.gr hg
  replace hb8 := hb8.grown hg (by simpa using hne48.symm)
  replace hw := hw.own hb4b hg
  replace hH := hH.grT hG rfl
  replace hS := hS.grT hG rfl
  replace hb4 := hb4'
  clear hb4' hg hG
  repeat' (first | (first | refine CW.seq ?_ | refine CW.region ?_ | refine CW.block ?_) | (refine Post.seq ?_) | refine SW.nil ?_ | refine SW.pure rfl rfl ?_)
  have hwB : Ext w0 w6 := hw
  refine CW.loop (fun t : Nat × Nat × Option Addr × Nat => [(1, .int .i64 (i : Int)), (2, .int .i64 (k : Int)), (4, .pointer (some ⟨b4, 0, none⟩)), (8, .pointer (some ⟨b8, 0, none⟩)), (11, .slice t.2.2.1 t.2.1 t.2.2.2), (12, .int .i64 (t.1 : Int))])
   (fun t w' => t.1 ≤ u.Slabs.n ∧ t.2.1 ≤ t.1 ∧ Ext w6 w' ∧ Own w' w6.heap.size 46 3 encSb t.2.2.1 t.2.1 t.2.2.2 ((p.2.Slabs.take t.1).eraseIdx k)) (fun t => u.Slabs.n - t.1) (0, 0, none, 0) ⟨rfl, rfl, rfl, rfl, rfl, rfl, trivial⟩ ⟨Nat.zero_le _, Nat.zero_le _, Ext.refl _, by simpa using Own.nil_ _ _ _ _ _ _⟩ ?_
  clear hw
  rintro ⟨j, m, A, c⟩ w7 ⟨hj, hm, hw, hL⟩
  simp only at hj hm hL ⊢
  have gC := hb4.cell (i := 6) (v := .slice r.Caches.A r.Caches.n r.Caches.c) rfl
  have gS6 := hwB.cell gS
  have hSl6 := hSl.ext hwB
  by_cases hjn : j < u.Slabs.n
  ·have hjl : j < p.2.Slabs.length := by omega
   by_cases hjk : j = k
   ·subst hjk
    repeat' (first | (first | refine CW.seq ?_ | refine CW.region ?_ | refine CW.block ?_ | refine CW.condd_t rfl (by omega) ?_ | refine CW.condn_f rfl (by omega) ?_ | refine CW.skip ?_) | (first | refine Post.seq ?_ | refine Post.blk ?_) | refine SW.nil ?_ | refine SW.pure rfl rfl ?_ | refine SW.st (st_field rfl) rfl ?_ | (refine SW.st (st_add rfl rfl (by omega) (by omega)) rfl ?_) | (refine SW.st (st_indexN rfl rfl (by assumption) (by omega)) rfl ?_) | refine SW.st (st_len rfl) rfl ?_ | (show SW _ _ _ _ (⟨_, Op.load _ _, _, _, _, none⟩ :: _) _ _; first | refine SW.st (st_loadx hw rfl gC) rfl ?_ | refine SW.st (st_loadx hw rfl gS6) rfl ?_))
    refine Post.again (j + 1, m, A, c) ⟨rfl, rfl, rfl, rfl, rfl, rfl, trivial⟩ (by simp only; omega) ⟨by simp only; omega, by simp only; omega, hw, ?_⟩
    simp only
    rw [erase_take_eq hjl]
    exact hL
   ·repeat' (first | (first | refine CW.seq ?_ | refine CW.region ?_ | refine CW.block ?_ | refine CW.condd_t rfl (by omega) ?_ | refine CW.condn_t rfl (by omega) ?_ | refine CW.skip ?_) | (refine Post.seq ?_) | refine SW.nil ?_ | refine SW.pure rfl rfl ?_ | refine SW.st (st_field rfl) rfl ?_ | (refine SW.st (st_indexN rfl rfl (by assumption) (by omega)) rfl ?_) | refine SW.st (st_len rfl) rfl ?_ | (show SW _ _ _ _ (⟨_, Op.load _ _, _, _, _, none⟩ :: _) _ _; first | refine SW.st (st_loadx hw rfl gC) rfl ?_ | refine SW.st (st_loadx hw rfl gS6) rfl ?_ | refine SW.st (st_loadsx hw rfl rfl ((hSl6.all hjn))) rfl ?_))
    refine SW.build1 rfl rfl rfl rfl rfl fun b w8 hXX hb hBb => ?_
    (replace hw := Ext.trans hw hXX; replace hL := hL.ext hXX)
    refine SW.append hL (Blk.sl1 (enc := encSb) hBb) hw.size rfl rfl rfl (by omega) (by omega) fun A2 c2 w9 hO1 hg => ?_
    replace hw := ext_grown hw hg (Nat.le_refl _) hL.row_ge
    repeat' (first | (refine CW.region ?_) | (first | refine Post.seq ?_ | refine Post.blk ?_) | refine SW.nil ?_ | refine SW.pure rfl rfl ?_ | (refine SW.st (st_add rfl rfl (by omega) (by omega)) rfl ?_))
    refine Post.again (j + 1, m + 1, A2, c2) ⟨rfl, rfl, rfl, rfl, rfl, rfl, trivial⟩ (by simp only; omega) ⟨by simp only; omega, by simp only; omega, hw, ?_⟩
    simp only
    rw [erase_take_ne hjl hjk]
    exact hO1
  ·obtain rfl : j = u.Slabs.n := by omega
   rw [List.take_of_length_le (by omega)] at hL
   repeat' (first | (first | refine CW.seq ?_ | refine CW.region ?_ | refine CW.condd_f rfl (by omega) ?_ | refine CW.exit ?_) | (first | refine Post.seq ?_ | refine Post.seq_exit ?_ | refine Post.hit ?_ | refine Post.again_exit ?_) | refine SW.nil ?_ | refine SW.pure rfl rfl ?_ | refine SW.st (st_field rfl) rfl ?_ | (refine SW.st (st_indexN rfl rfl (by assumption) (by omega)) rfl ?_) | refine SW.st (st_len rfl) rfl ?_ | (show SW _ _ _ _ (⟨_, Op.load _ _, _, _, _, none⟩ :: _) _ _; first | refine SW.st (st_loadx hw rfl gC) rfl ?_ | refine SW.st (st_loadx hw rfl gS6) rfl ?_))
   have hS7 := (hS.heapAt (hH.low hx.size)).newSlabsAt (Nat.le_trans hx.size hwB.size) hic hi hw hL
   have hrow := hS7.row
   have hb4' := hb4.ext hw
   have hb8' := hb8.ext hw
   refine SW.storeO i 4 ⟨cs[i].Names, cs[i].Size, cs[i].Per, cs[i].Order, ⟨A, m, c⟩, cs[i].Active⟩ hrow rfl rfl rfl hin (by decide) rfl rfl fun w10 hrow' hg7 => ?_
   have hG7 := hrow.gr hg7
   have hS8 := hS7.rowSet hrow' hg7
   have hgg := (hwB.trans hw).gr (ownB r.Caches.A r.Caches.c)
   have hgg2 := grown_trans hgg hg7 (.inl rfl)
   (replace hb4' := hb4'.grT hG7 rfl; replace hb8' := hb8'.grT hG7 rfl)
   repeat' (first | (first | refine CW.seq ?_ | refine CW.region ?_) | (refine Post.seq ?_) | refine SW.nil ?_ | (show SW _ _ _ _ (⟨_, Op.load _ _, _, _, _, none⟩ :: _) _ _; refine SW.st (st_loads rfl rfl ((fun _ _ => hb4'.cell))) rfl ?_))
   refine SW.storeAgg hb8' rfl rfl rfl rfl (one_s ⟨r.Words, H, r.Caches⟩) fun w11 hR2 hg => ?_
   have hG := hb8'.gr hg
   repeat' (first | (refine CW.ret ?_) | (refine Post.seq ?_) | refine SW.nil ?_)
   refine Post.ret1c rfl rfl hR2 rfl ⟨_, rfl, H, _, rfl, ?_, hS8.grT hG rfl, ?_⟩
   ·exact (ext_grown (hx.trans (hwB.trans hw)) hg7 (Nat.le_refl _) hrow.row_ge).own (Nat.le_trans hx.size hb8w) hg
   ·exact grown_trans hgg2 hg (.inr fun i e => by cases e; exact hb8w)
 ·refine SW.alloc rfl fun b9 w4 hXX hb9b hb9 => ?_
  have hb9w : w0.heap.size ≤ b9 := Nat.le_trans hw.size hb9b
  try replace hH := hH.ext hXX
  (replace hw := Ext.trans hw hXX; replace hb4 := hb4.ext hXX; replace hb8 := hb8.ext hXX; replace hS := hS.ext hXX)
  refine SW.nil (Post.sf hXX ?_)
  refine SF.one 13 rfl (by kernel_rfl) rfl ?_
  refine SW.call rfl rfl (HeapFree_ans r.Heap p.1 cpu x.At _ hS.heap.rd h1.small h1.big hat) fun v w4 hXX hv => ?_
  obtain ⟨H, rfl, hH⟩ := hv
  replace hH := hH.low hw.size
  (replace hw := Ext.trans hw hXX; replace hb4 := hb4.ext hXX; replace hb8 := hb8.ext hXX; replace hS := hS.ext hXX)
  try replace hb9 := hb9.ext hXX
  refine SW.nil (Post.sf hXX ?_)
  refine SF.take 14 [] [] hRB rfl (by kernel_rfl) (by kernel_rfl) (by kernel_rfl) ?_
  repeat (refine SW.pure rfl rfl ?_)
  refine SW.tknil ?_
  refine SF.take 15 [] [] hRB rfl (by kernel_rfl) (by kernel_rfl) (by kernel_rfl) ?_
  repeat (refine SW.pure rfl rfl ?_)
  refine SW.tknil ?_
  refine SF.take2 16 [] hRB rfl (by kernel_rfl) (by kernel_rfl) (by kernel_rfl) (pureV_st rfl) (fun w2 hS => pureV_st rfl) rfl ?_
  refine SF.turn rfl (by kernel_rfl) rfl ?_
  refine SW.storeAgg hb9 rfl rfl rfl rfl (one_h H) fun w5 hb9' hg => ?_
  have hG := hb9.gr hg
  replace hw := hw.own hb9w hg
  (replace hb4 := hb4.grT hG rfl; replace hb8 := hb8.grT hG rfl; replace hH := hH.grT hG rfl; replace hS := hS.grT hG rfl)
  replace hb9 := hb9'
  clear hb9' hg hG
  have hX8 := hS
  have hS : True := trivial
  refine SW.nil (Post.sg hS ?_)
  refine SG.last rfl (by kernel_rfl) (by kernel_rfl) ?_
  replace hS := hX8
  clear hX8
  repeat' (first | (first | refine CW.seq ?_ | refine CW.region ?_) | (first | refine Post.seq ?_ | refine Post.np ?_) | refine SW.nil ?_ | refine SW.pure rfl rfl ?_ | refine SW.st (st_field rfl) rfl ?_ | (show SW _ _ _ _ (⟨_, Op.load _ _, _, _, _, none⟩ :: _) _ _; refine SW.st (st_loads rfl rfl ((fun _ _ => hb9.cell))) rfl ?_))
  refine SW.storePart 1 hb4 rfl rfl rfl (Nat.le_of_ble_eq_true rfl) (one_h H) (encSys ⟨r.Words, H, r.Caches⟩) rfl fun w6 hb4' hg => ?_
  have hG := hb4.gr hg
  replace hb8 := hb8.grown hg (by simpa using hne48.symm)
  replace hw := hw.own hb4b hg
  replace hH := hH.grT hG rfl
  replace hS := hS.grT hG rfl
  replace hb4 := hb4'
  clear hb4' hg hG
  repeat' (first | (first | refine CW.seq ?_ | refine CW.region ?_ | refine CW.block ?_) | (refine Post.seq ?_) | refine SW.nil ?_ | refine SW.pure rfl rfl ?_)
  have hwB : Ext w0 w6 := hw
  refine CW.loop (fun t : Nat × Nat × Option Addr × Nat => [(1, .int .i64 (i : Int)), (2, .int .i64 (k : Int)), (4, .pointer (some ⟨b4, 0, none⟩)), (8, .pointer (some ⟨b8, 0, none⟩)), (11, .slice t.2.2.1 t.2.1 t.2.2.2), (12, .int .i64 (t.1 : Int))])
   (fun t w' => t.1 ≤ u.Slabs.n ∧ t.2.1 ≤ t.1 ∧ Ext w6 w' ∧ Own w' w6.heap.size 46 3 encSb t.2.2.1 t.2.1 t.2.2.2 ((p.2.Slabs.take t.1).eraseIdx k)) (fun t => u.Slabs.n - t.1) (0, 0, none, 0) ⟨rfl, rfl, rfl, rfl, rfl, rfl, trivial⟩ ⟨Nat.zero_le _, Nat.zero_le _, Ext.refl _, by simpa using Own.nil_ _ _ _ _ _ _⟩ ?_
  clear hw
  rintro ⟨j, m, A, c⟩ w7 ⟨hj, hm, hw, hL⟩
  simp only at hj hm hL ⊢
  have gC := hb4.cell (i := 6) (v := .slice r.Caches.A r.Caches.n r.Caches.c) rfl
  have gS6 := hwB.cell gS
  have hSl6 := hSl.ext hwB
  by_cases hjn : j < u.Slabs.n
  ·have hjl : j < p.2.Slabs.length := by omega
   by_cases hjk : j = k
   ·subst hjk
    repeat' (first | (first | refine CW.seq ?_ | refine CW.region ?_ | refine CW.block ?_ | refine CW.condd_t rfl (by omega) ?_ | refine CW.condn_f rfl (by omega) ?_ | refine CW.skip ?_) | (first | refine Post.seq ?_ | refine Post.blk ?_) | refine SW.nil ?_ | refine SW.pure rfl rfl ?_ | refine SW.st (st_field rfl) rfl ?_ | (refine SW.st (st_add rfl rfl (by omega) (by omega)) rfl ?_) | (refine SW.st (st_indexN rfl rfl (by assumption) (by omega)) rfl ?_) | refine SW.st (st_len rfl) rfl ?_ | (show SW _ _ _ _ (⟨_, Op.load _ _, _, _, _, none⟩ :: _) _ _; first | refine SW.st (st_loadx hw rfl gC) rfl ?_ | refine SW.st (st_loadx hw rfl gS6) rfl ?_))
    refine Post.again (j + 1, m, A, c) ⟨rfl, rfl, rfl, rfl, rfl, rfl, trivial⟩ (by simp only; omega) ⟨by simp only; omega, by simp only; omega, hw, ?_⟩
    simp only
    rw [erase_take_eq hjl]
    exact hL
   ·repeat' (first | (first | refine CW.seq ?_ | refine CW.region ?_ | refine CW.block ?_ | refine CW.condd_t rfl (by omega) ?_ | refine CW.condn_t rfl (by omega) ?_ | refine CW.skip ?_) | (refine Post.seq ?_) | refine SW.nil ?_ | refine SW.pure rfl rfl ?_ | refine SW.st (st_field rfl) rfl ?_ | (refine SW.st (st_indexN rfl rfl (by assumption) (by omega)) rfl ?_) | refine SW.st (st_len rfl) rfl ?_ | (show SW _ _ _ _ (⟨_, Op.load _ _, _, _, _, none⟩ :: _) _ _; first | refine SW.st (st_loadx hw rfl gC) rfl ?_ | refine SW.st (st_loadx hw rfl gS6) rfl ?_ | refine SW.st (st_loadsx hw rfl rfl ((hSl6.all hjn))) rfl ?_))
    refine SW.build1 rfl rfl rfl rfl rfl fun b w8 hXX hb hBb => ?_
    (replace hw := Ext.trans hw hXX; replace hL := hL.ext hXX)
    refine SW.append hL (Blk.sl1 (enc := encSb) hBb) hw.size rfl rfl rfl (by omega) (by omega) fun A2 c2 w9 hO1 hg => ?_
    replace hw := ext_grown hw hg (Nat.le_refl _) hL.row_ge
    repeat' (first | (refine CW.region ?_) | (first | refine Post.seq ?_ | refine Post.blk ?_) | refine SW.nil ?_ | refine SW.pure rfl rfl ?_ | (refine SW.st (st_add rfl rfl (by omega) (by omega)) rfl ?_))
    refine Post.again (j + 1, m + 1, A2, c2) ⟨rfl, rfl, rfl, rfl, rfl, rfl, trivial⟩ (by simp only; omega) ⟨by simp only; omega, by simp only; omega, hw, ?_⟩
    simp only
    rw [erase_take_ne hjl hjk]
    exact hO1
  ·obtain rfl : j = u.Slabs.n := by omega
   rw [List.take_of_length_le (by omega)] at hL
   repeat' (first | (first | refine CW.seq ?_ | refine CW.region ?_ | refine CW.condd_f rfl (by omega) ?_ | refine CW.exit ?_) | (first | refine Post.seq ?_ | refine Post.seq_exit ?_ | refine Post.hit ?_ | refine Post.again_exit ?_) | refine SW.nil ?_ | refine SW.pure rfl rfl ?_ | refine SW.st (st_field rfl) rfl ?_ | (refine SW.st (st_indexN rfl rfl (by assumption) (by omega)) rfl ?_) | refine SW.st (st_len rfl) rfl ?_ | (show SW _ _ _ _ (⟨_, Op.load _ _, _, _, _, none⟩ :: _) _ _; first | refine SW.st (st_loadx hw rfl gC) rfl ?_ | refine SW.st (st_loadx hw rfl gS6) rfl ?_))
   have hS7 := (hS.heapAt (hH.low hx.size)).newSlabsAt (Nat.le_trans hx.size hwB.size) hic hi hw hL
   have hrow := hS7.row
   have hb4' := hb4.ext hw
   have hb8' := hb8.ext hw
   refine SW.storeO i 4 ⟨cs[i].Names, cs[i].Size, cs[i].Per, cs[i].Order, ⟨A, m, c⟩, cs[i].Active⟩ hrow rfl rfl rfl hin (by decide) rfl rfl fun w10 hrow' hg7 => ?_
   have hG7 := hrow.gr hg7
   have hS8 := hS7.rowSet hrow' hg7
   have hgg := (hwB.trans hw).gr (ownB r.Caches.A r.Caches.c)
   have hgg2 := grown_trans hgg hg7 (.inl rfl)
   (replace hb4' := hb4'.grT hG7 rfl; replace hb8' := hb8'.grT hG7 rfl)
   repeat' (first | (first | refine CW.seq ?_ | refine CW.region ?_) | (refine Post.seq ?_) | refine SW.nil ?_ | (show SW _ _ _ _ (⟨_, Op.load _ _, _, _, _, none⟩ :: _) _ _; refine SW.st (st_loads rfl rfl ((fun _ _ => hb4'.cell))) rfl ?_))
   refine SW.storeAgg hb8' rfl rfl rfl rfl (one_s ⟨r.Words, H, r.Caches⟩) fun w11 hR2 hg => ?_
   have hG := hb8'.gr hg
   repeat' (first | (refine CW.ret ?_) | (refine Post.seq ?_) | refine SW.nil ?_)
   refine Post.ret1c rfl rfl hR2 rfl ⟨_, rfl, H, _, rfl, ?_, hS8.grT hG rfl, ?_⟩
   ·exact (ext_grown (hx.trans (hwB.trans hw)) hg7 (Nat.le_refl _) hrow.row_ge).own (Nat.le_trans hx.size hb8w) hg
   ·exact grown_trans hgg2 hg (.inr fun i e => by cases e; exact hb8w)
set_option maxHeartbeats 4000000 in
theorem shrunk_ans (wb w0 : World) (r : SRow) (s : KSystem) (cs : List CRow) (i : Nat) (hf : s.fine)
  (hx : Ext wb w0) (hS : SX w0 wb.heap.size r s cs) (hI : SI w0 wb.heap.size r s cs) (hi : i < s.Caches.length) (hn : s.Caches.length ≤ 1000000) :
  AnsX Tryz.prog 19 [.agg (encSys r).toArray, .int .i64 (i : Int)] w0 fun v w' => ∃ H cs', v = .agg (encSys ⟨r.Words, H, r.Caches⟩).toArray ∧ Ext wb w' ∧ SX w' wb.heap.size ⟨r.Words, H, r.Caches⟩ (sysAt s i (shrinkF s.Caches[i].Slabs.length (s.Heap, idleC s.Caches[i]))) cs' ∧ (∀ j x, Blk w0 j 30 x → Blk w' j 30 x) := by
 refine ansx_of Tryz.func19 rfl Tryz.ntmps19 rfl ?_
 refine CW.seq (CW.region (SW.box rfl rfl fun b2 w1 hw hb2b hb2 => ?_))
 refine SW.alloc rfl fun b4 w3 hw3 hb4b hb4 => ?_
 have hb4w : w0.heap.size ≤ b4 := Nat.le_trans hw.size hb4b
 have hne : b4 ≠ b2 := by have := hb2.lt; omega
 (replace hw := Ext.trans hw hw3; replace hb2 := hb2.ext hw3)
 have h1 := hf.hok
 have h2 := hf.cok hi
 have e0 := sysAt_self hi
 obtain ⟨c, hc⟩ : ∃ c, s.Caches[i] = c := ⟨_, rfl⟩
 rw [hc] at h2 e0 ⊢
 rw [← e0] at hS hI
 obtain ⟨e1, e2⟩ := hS.rows
 have hic : i < cs.length := by omega
 have hin : i < r.Caches.n := by omega
 have hAc := hS.row.sl.base
 have hC := hS.get hic hi
 have q1 := hC.active.len
 have q2 := h2.small.active
 have q3 := hC.slabs.len
 have q4 := h2.small.slabs
 obtain ⟨u, hu⟩ : ∃ u, cs[i] = u := ⟨_, rfl⟩
 rw [hu] at hC q1 q3
 simp only at q1 q3
 clear hC
 replace hS := hS.ext hw
 replace hI := hI.ext hw
 have hbw2 : wb.heap.size ≤ b2 := Nat.le_trans hx.size hb2b
 have hbw4 : wb.heap.size ≤ b4 := Nat.le_trans hx.size hb4w
 replace hx := hx.trans hw
 have hkp : ∀ j x, Blk w0 j 30 x → Blk w3 j 30 x := fun j x h => h.ext hw
 repeat' (first | (first | refine CW.seq ?_ | refine CW.region ?_ | refine CW.block ?_) | (refine Post.seq ?_) | refine SW.nil ?_ | refine SW.pure rfl rfl ?_)
 obtain ⟨K, hK⟩ : ∃ K : Env → World → Prop, K = fun L' w' => subEnv L' [(1, .int .i64 (i : Int)), (2, .pointer (some ⟨b2, 0, none⟩)), (4, .pointer (some ⟨b4, 0, none⟩))] ∧ Ext wb w' ∧ Blk w' b2 30 (encSys r) ∧ Blk w' b4 30 (encSys .zero) ∧ SX w' wb.heap.size r (sysAt s i (s.Heap, idleC c)) cs ∧ (∀ j x, Blk w0 j 30 x → Blk w' j 30 x) := ⟨_, rfl⟩
 refine CW.cutb K ?_ ?_
 ·refine CW.loop (fun k : Nat => [(1, .int .i64 (i : Int)), (2, .pointer (some ⟨b2, 0, none⟩)), (4, .pointer (some ⟨b4, 0, none⟩)), (5, .int .i64 (k : Int))])
   (fun k w' => k ≤ u.Active.n ∧ Ext wb w' ∧ Blk w' b2 30 (encSys r) ∧ Blk w' b4 30 (encSys .zero) ∧ SX w' wb.heap.size r (sysAt s i (s.Heap, ⟨c.Names, c.Size, c.Per, c.Order, c.Slabs, List.replicate k (-1) ++ c.Active.drop k⟩)) cs ∧ SI w' wb.heap.size r (sysAt s i (s.Heap, ⟨c.Names, c.Size, c.Per, c.Order, c.Slabs, List.replicate k (-1) ++ c.Active.drop k⟩)) cs ∧ (∀ j x, Blk w0 j 30 x → Blk w' j 30 x)) (fun k => u.Active.n - k) 0
   ⟨rfl, rfl, rfl, rfl, trivial⟩ ⟨by omega, hx, hb2, hb4, by simpa using hS, by simpa using hI, hkp⟩ ?_
  clear hw hx hb2 hb4 hS hI hkp
  rintro k w1 ⟨hk, hx, hb2, hb4, hS, hI, hkp⟩
  have hw := Ext.refl w1
  have hC := hS.get hic hi
  rw [hu] at hC
  have hAa := hC.active.sl.base
  have gC := hb2.cell (i := 6) (v := .slice r.Caches.A r.Caches.n r.Caches.c) rfl
  have gS := hS.row.sl.fld hin (j := 5) (show (encC cs[i])[5]? = some (Value.slice u.Active.A u.Active.n u.Active.c) by rw [hu]; rfl)
  by_cases hkn : k < u.Active.n
  ·repeat' (first | (first | refine CW.seq ?_ | refine CW.region ?_ | refine CW.block ?_ | refine CW.condd_t rfl (by omega) ?_ | refine CW.skip ?_) | (refine Post.seq ?_) | refine SW.nil ?_ | refine SW.pure rfl rfl ?_ | refine SW.st (st_field rfl) rfl ?_ | (refine SW.st (st_indexN rfl rfl (by assumption) (by omega)) rfl ?_) | refine SW.st (st_len rfl) rfl ?_ | (show SW _ _ _ _ (⟨_, Op.load _ _, _, _, _, none⟩ :: _) _ _; first | refine SW.st (st_load rfl gC) rfl ?_ | refine SW.st (st_load rfl gS) rfl ?_))
   refine SW.storeI k hC.active rfl rfl hkn fun w2 hO hg => ?_
   have hG := hC.active.gr hg
   simp only at hO
   rw [idle_step (by omega)] at hO
   have hSI := hS.activeAt hI hic hi (by rw [hu]; exact hO) (by rw [hu]; exact hg)
   replace hx := ext_grown hx hg (Nat.le_refl _) hC.active.row_ge
   (replace hb2 := hb2.grT hG rfl; replace hb4 := hb4.grT hG rfl)
   repeat' (first | (refine CW.region ?_) | (first | refine Post.seq ?_ | refine Post.blk ?_) | refine SW.nil ?_ | refine SW.pure rfl rfl ?_ | (refine SW.st (st_add rfl rfl (by omega) (by omega)) rfl ?_))
   exact Post.again (k + 1) ⟨rfl, rfl, rfl, rfl, trivial⟩ (by omega) ⟨by omega, hx, hb2, hb4, hSI.1, hSI.2, fun j x h => (hkp j x h).grT hG rfl⟩
  ·obtain rfl : k = u.Active.n := by omega
   repeat' (first | (first | refine CW.seq ?_ | refine CW.region ?_ | refine CW.condd_f rfl (by omega) ?_ | refine CW.exit ?_) | (first | refine Post.seq ?_ | refine Post.seq_exit ?_ | refine Post.hit ?_ | refine Post.again_exit ?_) | refine SW.nil ?_ | refine SW.pure rfl rfl ?_ | refine SW.st (st_field rfl) rfl ?_ | (refine SW.st (st_indexN rfl rfl (by assumption) (by omega)) rfl ?_) | refine SW.st (st_len rfl) rfl ?_ | (show SW _ _ _ _ (⟨_, Op.load _ _, _, _, _, none⟩ :: _) _ _; first | refine SW.st (st_load rfl gC) rfl ?_ | refine SW.st (st_load rfl gS) rfl ?_))
   refine Post.cutn ?_
   rw [hK]
   refine ⟨⟨rfl, rfl, rfl, trivial⟩, hx, hb2, hb4, ?_, hkp⟩
   have e3 : List.replicate u.Active.n (-1) ++ c.Active.drop u.Active.n = List.replicate c.Active.length (-1) := by
    rw [q1, List.drop_of_length_le (by omega), List.append_nil]
   rw [e3] at hS
   exact hS
 ·clear hw hx hb2 hb4 hS hI hkp
  subst hK
  rintro L' w1 ⟨hsub, hx, hb2, hb4, hS, hkp⟩
  refine Post.sub hsub ?_
  have hC := hS.get hic hi
  have hw := Ext.refl w1
  have q5 := hC.slabs.len
  have q6 : (idleC c).Slabs = c.Slabs := rfl
  rw [q6] at q5
  repeat' (first | (first | refine CW.seq ?_ | refine CW.region ?_ | refine CW.block ?_) | (refine Post.seq ?_) | refine SW.nil ?_ | refine SW.pure rfl rfl ?_ | refine SW.st (st_field rfl) rfl ?_ | (refine SW.st (st_sub rfl rfl (by omega) (by omega)) rfl ?_) | (refine SW.st (st_indexN rfl rfl (by assumption) (by omega)) rfl ?_) | refine SW.st (st_len rfl) rfl ?_ | (show SW _ _ _ _ (⟨_, Op.load _ _, _, _, _, none⟩ :: _) _ _; first | refine SW.st (st_load rfl (hb2.cell (i := 6) (v := .slice r.Caches.A r.Caches.n r.Caches.c) rfl)) rfl ?_ | refine SW.st (st_load rfl (hS.row.sl.fld hin (j := 4) (u := .slice cs[i].Slabs.A cs[i].Slabs.n cs[i].Slabs.c) rfl)) rfl ?_))
  have h3 := h2.idle
  refine CW.loop (fun t : Nat × HRow × List CRow × Heap × KCache => [(1, .int .i64 (i : Int)), (2, .pointer (some ⟨b2, 0, none⟩)), (4, .pointer (some ⟨b4, 0, none⟩)), (6, .int .i64 ((t.1 : Int) - 1))])
   (fun t w' => t.1 ≤ t.2.2.2.2.Slabs.length ∧ Ext wb w' ∧ Blk w' b2 30 (encSys ⟨r.Words, t.2.1, r.Caches⟩) ∧ Blk w' b4 30 (encSys .zero) ∧ SX w' wb.heap.size ⟨r.Words, t.2.1, r.Caches⟩ (sysAt s i t.2.2.2) t.2.2.1 ∧ HOk t.2.2.2.1 ∧ COk t.2.2.2.2 ∧ shrinkF c.Slabs.length (s.Heap, idleC c) = shrinkF t.1 t.2.2.2 ∧ (∀ j x, Blk w0 j 30 x → Blk w' j 30 x)) (fun t => t.1) (c.Slabs.length, r.Heap, cs, s.Heap, idleC c)
   ?_ ⟨Nat.le_refl _, hx, hb2, hb4, hS, h1, h3, rfl, hkp⟩ ?_
  ·exact ⟨rfl, rfl, rfl, congrArg (fun z => some (Value.int .i64 z)) (show ((cs[i].Slabs.n : Nat) : Int) - 1 = ((c.Slabs.length : Nat) : Int) - 1 by omega), trivial⟩
  clear hw hx hb2 hb4 hS hC hkp hsub h1 h2 h3 q5
  rintro ⟨k, H, cs', h, c'⟩ w2 ⟨hk, hx, hb2, hb4, hS, h1, h2, hfin, hkp⟩
  simp only at hk hb2 hS h1 h2 hfin ⊢
  have hw := Ext.refl w2
  obtain ⟨e3, e4⟩ := hS.rows
  have hic' : i < cs'.length := by omega
  have hC := hS.get hic' hi
  have q7 := hC.slabs.len
  have q8 := h2.small.slabs
  have q9 := hC.per
  have hAs := hC.slabs.sl.base
  have hAc := hS.row.sl.base
  simp only at hC q7 q8 q9 hAc
  have gC := hb2.cell (i := 6) (v := .slice r.Caches.A r.Caches.n r.Caches.c) rfl
  cases k with
  | zero =>
   repeat' (first | (first | refine CW.seq ?_ | refine CW.region ?_ | refine CW.condd_f rfl (by omega) ?_ | refine CW.exit ?_) | (first | refine Post.seq ?_ | refine Post.seq_exit ?_ | refine Post.hit ?_ | refine Post.again_exit ?_) | refine SW.nil ?_ | refine SW.pure rfl rfl ?_ | (show SW _ _ _ _ (⟨_, Op.load _ _, _, _, _, none⟩ :: _) _ _; refine SW.st (st_loads rfl rfl ((fun _ _ => hb2.cell))) rfl ?_))
   refine SW.storeAgg hb4 rfl rfl rfl rfl (one_s ⟨r.Words, H, r.Caches⟩) fun w7 hR2 hg => ?_
   have hG := hb4.gr hg
   replace hx := hx.own hbw4 hg
   replace hS := hS.grT hG rfl
   repeat' (first | (refine CW.ret ?_) | (refine Post.seq ?_) | refine SW.nil ?_)
   exact Post.ret1c rfl rfl hR2 rfl ⟨_, rfl, H, cs', rfl, hx, by rw [hfin]; exact hS, fun j x hj => (hkp j x hj).grown hg (by have := hj.lt; simp; omega)⟩
  | succ k =>
   have ek : ((k + 1 : Nat) : Int) - 1 = (k : Int) := by omega
   rw [ek]
   have hks : k < c'.Slabs.length := by omega
   have hkn : k < cs'[i].Slabs.n := by omega
   obtain ⟨y, hy⟩ : ∃ y, c'.Slabs[k] = y := ⟨_, rfl⟩
   have gF := hC.slabs.sl.fld hkn (j := 1) (show (encSb (c'.Slabs[k]'(by omega)))[1]? = some (Value.int .i64 y.Free) by rw [hy]; rfl)
   have gS := hS.row.sl.fld hin (j := 4) (u := .slice cs'[i].Slabs.A cs'[i].Slabs.n cs'[i].Slabs.c) rfl
   have gP := hS.row.sl.fld hin (j := 2) (u := .int .i64 cs'[i].Per) rfl
   by_cases hfull : y.Free = c'.Per
   ·repeat' (first | (first | refine CW.seq ?_ | refine CW.region ?_ | refine CW.block ?_ | refine CW.condd_t rfl (by omega) ?_ | refine CW.skip ?_ | (apply CW.quiet1 mixed; (· kernel_rfl); rotate_left; intro w1 hw1; replace hw := Ext.trans hw hw1; replace hb2 := hb2.ext hw1; replace hb4 := hb4.ext hw1; replace hS := hS.ext hw1; clear hw1; rotate_right)) | (refine Post.seq ?_) | refine SW.nil ?_ | refine SW.pure rfl rfl ?_ | refine SW.st (st_field rfl) rfl ?_ | (refine SW.st (st_indexN rfl rfl (by assumption) (by omega)) rfl ?_) | (show SW _ _ _ _ (⟨_, Op.load _ _, _, _, _, none⟩ :: _) _ _; first | refine SW.st (st_load rfl gC) rfl ?_ | refine SW.st (st_load rfl gS) rfl ?_ | refine SW.st (st_load rfl gP) rfl ?_ | refine SW.st (st_load rfl gF) rfl ?_ | refine SW.st (st_loads rfl rfl ((fun _ _ => hb2.cell))) rfl ?_) | exact SW.qnil rfl)
    all_goals first | (exfalso; omega) | skip
    refine SW.callX rfl rfl (dropSlab_ans wb _ ⟨r.Words, H, r.Caches⟩ s cs' i k (h, c') 0 (hx.trans hw) hS hi hn hks h1 h2) fun v w3 hv => ?_
    obtain ⟨H', cs2, rfl, hx3, hS3, hg3⟩ := hv
    have hG3 := hS.row.gr hg3
    rw [hy] at hS3
    (replace hb2 := hb2.grT hG3 rfl; replace hb4 := hb4.grT hG3 rfl)
    skip
    refine SW.storeAgg hb2 rfl rfl rfl rfl (one_s ⟨r.Words, H', r.Caches⟩) fun w4 hb2' hg => ?_
    have hG := hb2.gr hg
    replace hb4 := hb4.grown hg (by simpa using hne)
    replace hx3 := hx3.own hbw2 hg
    replace hS3 := hS3.grT hG rfl
    repeat' (first | (refine CW.region ?_) | (first | refine Post.seq ?_ | refine Post.blk ?_) | refine SW.nil ?_ | refine SW.pure rfl rfl ?_ | (refine SW.st (st_sub rfl rfl (by omega) (by omega)) rfl ?_))
    refine Post.again (k, H', cs2, (freeV h 0 y.At).2, cutSlab c' k) ⟨rfl, rfl, rfl, rfl, trivial⟩ (by simp only; omega) ⟨?_, hx3, hb2', hb4, hS3, h1.free _ _, h2.cut _, ?_, fun j x hj => (((hkp j x hj).ext hw).grT hG3 rfl).grown hg (by have := hj.lt; simp; omega)⟩
    ·simp only [cutSlab]
     rw [List.length_eraseIdx_of_lt hks]
     omega
    ·rw [hfin, shrinkF_cut hks (by rw [hy]; exact hfull), hy]
   ·repeat' (first | (first | refine CW.seq ?_ | refine CW.region ?_ | refine CW.block ?_ | refine CW.condd_t rfl (by omega) ?_ | refine CW.condd_f rfl (by omega) ?_ | refine CW.skip ?_ | (apply CW.quiet1 mixed; (· kernel_rfl); rotate_left; intro w1 hw1; replace hw := Ext.trans hw hw1; replace hb2 := hb2.ext hw1; replace hb4 := hb4.ext hw1; replace hS := hS.ext hw1; clear hw1; rotate_right)) | (first | refine Post.seq ?_ | refine Post.blk ?_) | refine SW.nil ?_ | refine SW.pure rfl rfl ?_ | refine SW.st (st_field rfl) rfl ?_ | (refine SW.st (st_sub rfl rfl (by omega) (by omega)) rfl ?_) | (refine SW.st (st_indexN rfl rfl (by assumption) (by omega)) rfl ?_) | (show SW _ _ _ _ (⟨_, Op.load _ _, _, _, _, none⟩ :: _) _ _; first | refine SW.st (st_load rfl gC) rfl ?_ | refine SW.st (st_load rfl gS) rfl ?_ | refine SW.st (st_load rfl gP) rfl ?_ | refine SW.st (st_load rfl gF) rfl ?_) | exact SW.qnil rfl)
    all_goals first | (exfalso; omega) | skip
    refine Post.again (k, H, cs', h, c') ⟨rfl, rfl, rfl, congrArg (fun z => some (Value.int .i64 z)) (by omega), trivial⟩ (by simp only; omega) ⟨by simp only; omega, hx.trans hw, hb2, hb4, hS, h1, h2, ?_, fun j x hj => (hkp j x hj).ext hw⟩
    rw [hfin, shrinkF_keep hks (by rw [hy]; exact hfull)]
set_option maxHeartbeats 2000000 in
theorem ShrunkOf_ans (r : SRow) (s : KSystem) (n : ByteArray) (w : World) (hr : RdS w r s) (hf : s.fine) :
  Ans Tryz.prog 8 [.agg (encSys r).toArray, .string n] w fun v w' => SysOut w.heap.size (shrunkV s n) v w' := by
 refine ans_of Tryz.func8 rfl Tryz.ntmps8 rfl ?_
 refine CW.seq (CW.region (SW.box rfl rfl fun b2 w1 hw hb2b hb2 => ?_))
 refine SW.alloc rfl fun b4 w3 hw3 hb4b hb4 => ?_
 have hb4w : w.heap.size ≤ b4 := Nat.le_trans hw.size hb4b
 have hne : b4 ≠ b2 := by have := hb2.lt; omega
 have hs := hf.small
 (replace hw := Ext.trans hw hw3; replace hb2 := hb2.ext hw3)
 obtain ⟨e, hE⟩ : ∃ e, askV s n 0 = e := ⟨_, rfl⟩
 have cA : ∀ w', Ext w w' → Ans Tryz.prog 18 [.agg (encSys r).toArray, .string n, .int .i64 0] w' fun v _ => v = .int .i64 e := fun w' hx => by
  have := askFault_ans r s n 0 w' (hr.ext hx) hf
  rwa [hE] at this
 by_cases he : e = 0
 ·subst he
  obtain ⟨hq, ht, _⟩ := askV_ok hE
  obtain ⟨i, hi, _, _, hix⟩ := idxOf_first2 ht
  have hV := shrunkV_ok hE hi hix
  have hm := (sysB_iff.1 hq).most
  repeat' (first | (first | refine CW.seq ?_ | refine CW.region ?_ | refine CW.condn_f rfl (by omega) ?_ | refine CW.skip ?_) | (refine Post.seq ?_) | refine SW.nil ?_ | refine SW.pure rfl rfl ?_ | (show SW _ _ _ _ (⟨_, Op.load _ _, _, _, _, none⟩ :: _) _ _; refine SW.st (st_loads rfl rfl ((fun _ _ => hb2.cell))) rfl ?_) | (show SW _ _ _ _ (⟨_, Op.call ⟨.value (.func _), _, _⟩, _, _, _, none⟩ :: _) _ _; (refine SW.call rfl rfl (cA _ hw) ?_; intro v w1 hw1 hv; subst hv; replace hw := Ext.trans hw hw1; replace hb2 := hb2.ext hw1; replace hb4 := hb4.ext hw1; clear hw1)))
  all_goals first | (exfalso; omega) | skip
  refine CW.anyF 5 7 (fun _ => True) mixed (by kernel_rfl) fun w1 hw1 hRB => ?_
  replace hw := Ext.trans hw hw1; replace hb2 := hb2.ext hw1; replace hb4 := hb4.ext hw1; clear hw1
  refine SF.take 0 [1] [] hRB rfl (by kernel_rfl) (by kernel_rfl) (by kernel_rfl) ?_
  repeat ((show SW _ _ _ _ (⟨_, Op.load _ _, _, _, _, none⟩ :: _) _ _; refine SW.st (st_loads rfl rfl ((fun _ _ => hb2.cell))) rfl ?_))
  refine SW.tknil ?_
  refine SF.take 2 [4] [] hRB rfl (by kernel_rfl) (by kernel_rfl) (by kernel_rfl) ?_
  repeat ((show SW _ _ _ _ (⟨_, Op.load _ _, _, _, _, none⟩ :: _) _ _; refine SW.st (st_loads rfl rfl ((fun _ _ => hb2.cell))) rfl ?_))
  refine SW.tknil ?_
  refine SF.take 3 [4] [] hRB rfl (by kernel_rfl) (by kernel_rfl) (by kernel_rfl) ?_
  repeat (refine SW.pure rfl rfl ?_)
  refine SW.tknil ?_
  refine SF.one 1 rfl (by kernel_rfl) rfl ?_
  refine SW.call rfl rfl (SystemCopyX_ans r s _ (hr.ext hw) hs) fun v w6 hXX hv => ?_
  obtain ⟨q, cs, rfl, hO, hI⟩ := hv
  replace hO := hO.low hw.size
  replace hI := hI.low hw.size
  (replace hw := Ext.trans hw hXX; replace hb2 := hb2.ext hXX; replace hb4 := hb4.ext hXX)
  refine SW.nil (Post.sf hXX ?_)
  refine SF.one 4 rfl (by kernel_rfl) rfl ?_
  refine SW.call rfl rfl (cacheOf_ans r s n _ (hr.ext hw) hs) fun v w7 hXX hv => ?_
  rw [hix] at hv
  subst hv
  (replace hw := Ext.trans hw hXX; replace hb2 := hb2.ext hXX; replace hb4 := hb4.ext hXX; replace hO := hO.ext hXX; replace hI := hI.ext hXX)
  refine SW.nil (Post.sf hXX ?_)
  refine SF.turn rfl (by kernel_rfl) rfl ?_
  refine SW.callX rfl rfl (shrunk_ans w _ q s cs i hf hw hO hI hi (by omega)) fun v w8 hv => ?_
  obtain ⟨H, cs', rfl, hx8, hS8, hkp8⟩ := hv
  replace hb4 := hkp8 _ _ hb4
  have hS : True := trivial
  refine SW.nil (Post.sg hS ?_)
  refine SG.one 6 rfl (by kernel_rfl) rfl ?_
  refine SW.storeAgg hb4 rfl rfl rfl rfl (one_s ⟨q.Words, H, q.Caches⟩) fun w9 hR2 hg => ?_
  have hG := hb4.gr hg
  replace hx8 := hx8.own hb4w hg
  replace hS8 := hS8.grT hG rfl
  refine SW.nil (Post.sg hS ?_)
  refine SG.last rfl (by kernel_rfl) (by kernel_rfl) ?_
  repeat' (first | (refine CW.ret ?_) | (first | refine Post.seq ?_ | refine Post.np ?_) | refine SW.nil ?_ | refine SW.pure rfl rfl ?_)
  exact Post.ret2c rfl rfl rfl hR2 rfl ⟨_, rfl, hx8, by rw [hV]; exact ⟨_, rfl, hS8.ownS⟩⟩
 ·have hV := shrunkV_no (s := s) (n := n) (by rw [hE]; exact he)
  rw [hE] at hV
  repeat' (first | (first | refine CW.seq ?_ | refine CW.region ?_ | refine CW.condn_t rfl (by omega) ?_) | (refine Post.seq ?_) | refine SW.nil ?_ | refine SW.pure rfl rfl ?_ | (refine SW.st (st_build rfl rfl) rfl ?_) | (show SW _ _ _ _ (⟨_, Op.load _ _, _, _, _, none⟩ :: _) _ _; refine SW.st (st_loads rfl rfl ((fun _ _ => hb2.cell))) rfl ?_) | (show SW _ _ _ _ (⟨_, Op.call ⟨.value (.func _), _, _⟩, _, _, _, none⟩ :: _) _ _; (refine SW.call rfl rfl (cA _ hw) ?_; intro v w1 hw1 hv; subst hv; replace hw := Ext.trans hw hw1; replace hb2 := hb2.ext hw1; replace hb4 := hb4.ext hw1; clear hw1)))
  all_goals first | (exfalso; omega) | skip
  refine SW.storeAgg hb4 rfl rfl rfl rfl (one_s .zero) fun w6 hR2 hg => ?_
  replace hw := hw.own hb4w hg
  repeat' (first | (refine CW.ret ?_) | (first | refine Post.seq ?_ | refine Post.seq_ret ?_) | refine SW.nil ?_ | refine SW.pure rfl rfl ?_)
  exact Post.ret2c rfl rfl rfl hR2 rfl ⟨_, rfl, hw, by rw [hV]; exact SysOut.zero e _ _⟩
open Go.RowKit
section
variable {P : Program} {L : Env} {w : World} {d : Option Nat} {T : TypeId} {pos : String} {af : Array Edge} {g : Option (Nat × Bool)}
theorem st_neStr {t ty : TypeId} {x y : Operand} {a : ByteArray} (hx : opv L x = some (.string a)) (hy : opv L y = some (.string a)) : St P ⟨d, .binOp .neq t x y ty, T, pos, af, g⟩ L w (.bool false) :=
 ⟨fun _ A hA w' _ => by
  have e1 := hA.eval hx
  have e2 := hA.eval hy
  generalize A.eval = ρ at *
  have h1 : (binOp .neq t (.string a) (.string a)).run P w' = .ok (.bool false) w' := by
   have : binOp .neq t (.string a) (.string a) = Op.stringOp .neq a a := by simp [binOp]
   rw [this]
   simp [Op.stringOp, pure]
  simp [execOp, e1, e2, eqGuard, h1]⟩
theorem st_neSS {t k ty : TypeId} [c : IntsTy P t k] {x y : Operand} (xs : List Int) (hx : opv L x = some (.agg (xs.map (Value.int .i64)).toArray)) (hy : opv L y = some (.agg (xs.map (Value.int .i64)).toArray)) (h1 : Nat.beq xs.length k = true) :
  St P ⟨d, .binOp .neq t x y ty, T, pos, af, g⟩ L w (.bool false) := (st_neS xs xs hx hy h1 h1).eq (by simp)
end
def Slab.nums (r : Slab) : List Int := [r.At, r.Free, r.First]
set_option maxHeartbeats 4000000 in
theorem sameSystem_ans (r q : SRow) (s : KSystem) (w : World) (ha : RdS w r s) (hb : RdS w q s) (hs : s.small) :
  Ans Tryz.prog 9 [.agg (encSys r).toArray, .agg (encSys q).toArray] w fun v _ => v = .bool true := by
 refine ans_of Tryz.func9 rfl Tryz.ntmps9 rfl ?_
 refine CW.seq (CW.region (SW.box rfl rfl fun b2 w1 hw hb2b hb2 => ?_))
 refine SW.box rfl rfl fun b3 w2 hw2 hb3b hb3 => ?_
 (replace hw := Ext.trans hw hw2; replace hb2 := hb2.ext hw2)
 obtain ⟨cs, hc⟩ := ha.caches
 obtain ⟨cs', hc'⟩ := hb.caches
 obtain ⟨z1, z2⟩ := hc.len
 obtain ⟨z3, z4⟩ := hc'.len
 have s1 := hs.words
 have s3 := hs.caches
 have m1 := ha.words.len
 have cM : ∀ w', Ext w w' → Ans Tryz.prog 21 [.slice r.Words.A r.Words.n r.Words.c, .slice q.Words.A q.Words.n q.Words.c] w' fun v _ => v = .bool true := fun w' hx => by
  have := sameInts_ans _ _ _ _ r.Words.c q.Words.c _ _ w' (ha.words.ext hx) (hb.words.ext hx) (by omega)
  simpa using this
 have cH : ∀ w', Ext w w' → Ans Tryz.prog 22 [.agg (encH r.Heap).toArray, .agg (encH q.Heap).toArray] w' fun v _ => v = .bool true := fun w' hx => sameHeap_ans _ _ _ w' (ha.heap.ext hx) (hb.heap.ext hx) hs.heap
 repeat' (first | (first | refine CW.seq ?_ | refine CW.region ?_ | refine CW.block ?_ | refine CW.condf rfl ?_ | refine CW.skip ?_) | (refine Post.seq ?_) | refine SW.nil ?_ | (show SW _ _ _ _ (⟨_, _, _, _, _, some _⟩ :: _) _ _; first | refine SW.want_f rfl rfl (by with_reducible rfl) ?_ | refine SW.splitn_f rfl rfl rfl (by omega) ?_ | refine SW.want rfl rfl ?_) | refine SW.pure rfl rfl ?_ | refine SW.st (st_field rfl) rfl ?_ | refine SW.st (st_len rfl) rfl ?_ | (show SW _ _ _ _ (⟨_, Op.load _ _, _, _, _, none⟩ :: _) _ _; first | refine SW.st (st_load rfl (hb2.cell rfl)) rfl ?_ | refine SW.st (st_load rfl (hb3.cell rfl)) rfl ?_ | refine SW.st (st_loads rfl rfl ((heapIn hb2))) rfl ?_ | refine SW.st (st_loads rfl rfl ((heapIn hb3))) rfl ?_) | (show SW _ _ _ _ (⟨_, Op.call ⟨.value (.func _), _, _⟩, _, _, _, none⟩ :: _) _ _; first | (refine SW.call rfl rfl (cM _ hw) ?_; intro v w1 hw1 hv; subst hv; replace hw := Ext.trans hw hw1; replace hb2 := hb2.ext hw1; replace hb3 := hb3.ext hw1; clear hw1) | (refine SW.call rfl rfl (cH _ hw) ?_; intro v w1 hw1 hv; subst hv; replace hw := Ext.trans hw hw1; replace hb2 := hb2.ext hw1; replace hb3 := hb3.ext hw1; clear hw1)))
 all_goals first | (exfalso; omega) | skip
 clear cM cH
 refine CW.loop (fun k : Nat => [(2, .pointer (some ⟨b2, 0, none⟩)), (3, .pointer (some ⟨b3, 0, none⟩)), (5, .int .i64 (k : Int))]) (fun k w' => k ≤ r.Caches.n ∧ Ext w w' ∧ Blk w' b2 30 (encSys r) ∧ Blk w' b3 30 (encSys q)) (fun k => r.Caches.n - k) 0
  ⟨rfl, rfl, rfl, trivial⟩ ⟨by omega, hw, hb2, hb3⟩ ?_
 clear hw hb2 hb3
 rintro k w' ⟨hk, hw, hb2, hb3⟩
 have hA := hc.row.base
 have hB := hc'.row.base
 by_cases hkn : k < r.Caches.n
 ·have hkn' : k < q.Caches.n := by omega
  have hck := hc.each.get k (by omega) (by omega)
  have hck' := hc'.each.get k (by omega) (by omega)
  have sm := hs.each _ (List.getElem_mem (show k < s.Caches.length by omega))
  have q1 := hck.names.len
  have q2 := hck.slabs.len
  have q3 := hck.active.len
  have q1' := hck'.names.len
  have q2' := hck'.slabs.len
  have q4 := sm.names
  have q5 := sm.slabs
  have q6 := sm.active
  have g1 := hck.size
  have g2 := hck.per
  have g3 := hck.order
  have g4 := hck'.size
  have g5 := hck'.per
  have g6 := hck'.order
  have cP : ∀ w', Ext w w' → Ans Tryz.prog 21 [.slice cs[k].Active.A cs[k].Active.n cs[k].Active.c, .slice cs'[k].Active.A cs'[k].Active.n cs'[k].Active.c] w' fun v _ => v = .bool true := fun w' hx => by
   have := sameInts_ans _ _ _ _ cs[k].Active.c cs'[k].Active.c _ _ w' (hck.active.ext hx) (hck'.active.ext hx) (by omega)
   simpa using this
  repeat' (first | (first | refine CW.seq ?_ | refine CW.region ?_ | refine CW.block ?_ | refine CW.condd_t rfl (by omega) ?_ | refine CW.skip ?_) | (refine Post.seq ?_) | refine SW.nil ?_ | refine SW.pure rfl rfl ?_ | refine SW.st (st_field rfl) rfl ?_ | (refine SW.st (st_indexN rfl rfl (by assumption) (by omega)) rfl ?_) | refine SW.st (st_len rfl) rfl ?_ | (show SW _ _ _ _ (⟨_, Op.load _ _, _, _, _, none⟩ :: _) _ _; first | refine SW.st (st_load rfl (hb2.cell rfl)) rfl ?_ | refine SW.st (st_loadsx hw rfl rfl ((hc.row.all hkn))) rfl ?_))
  refine SW.alloc rfl fun b6 w1 hw1 hb6b hb6 => ?_
  skip
  refine SW.storeAgg hb6 rfl rfl rfl rfl (one_c _) fun w2 hb6' hg => ?_
  have hXX := hw1.own hb6b hg
  have hb6w : w.heap.size ≤ b6 := Nat.le_trans hw.size hb6b
  replace hw := Ext.trans hw hXX
  replace hb2 := hb2.ext hXX
  replace hb3 := hb3.ext hXX
  replace hb6 := hb6'
  clear hb6' hw1 hg hXX
  repeat' (first | (first | refine CW.seq ?_ | refine CW.region ?_) | (refine Post.seq ?_) | refine SW.nil ?_ | refine SW.pure rfl rfl ?_ | refine SW.st (st_field rfl) rfl ?_ | (refine SW.st (st_indexN rfl rfl (by assumption) (by omega)) rfl ?_) | (show SW _ _ _ _ (⟨_, Op.load _ _, _, _, _, none⟩ :: _) _ _; first | refine SW.st (st_load rfl (hb3.cell rfl)) rfl ?_ | refine SW.st (st_loadsx hw rfl rfl ((hc'.row.all hkn'))) rfl ?_))
  refine SW.alloc rfl fun b7 w1 hw1 hb7b hb7 => ?_
  skip
  refine SW.storeAgg hb7 rfl rfl rfl rfl (one_c _) fun w2 hb7' hg => ?_
  have hXX := hw1.own hb7b hg
  have hb7w : w.heap.size ≤ b7 := Nat.le_trans hw.size hb7b
  replace hw := Ext.trans hw hXX
  replace hb2 := hb2.ext hXX
  replace hb3 := hb3.ext hXX
  replace hb6 := hb6.ext hXX
  replace hb7 := hb7'
  clear hb7' hw1 hg hXX
  repeat' (first | (first | refine CW.seq ?_ | refine CW.region ?_ | refine CW.block ?_ | refine CW.condf rfl ?_ | refine CW.skip ?_) | (refine Post.seq ?_) | refine SW.nil ?_ | (show SW _ _ _ _ (⟨_, _, _, _, _, some _⟩ :: _) _ _; first | refine SW.want_f rfl rfl (by with_reducible rfl) ?_ | refine SW.splitn_f rfl rfl rfl (by omega) ?_) | refine SW.pure rfl rfl ?_ | refine SW.st (st_field rfl) rfl ?_ | refine SW.st (st_len rfl) rfl ?_ | (show SW _ _ _ _ (⟨_, Op.load _ _, _, _, _, none⟩ :: _) _ _; first | refine SW.st (st_load rfl (hb6.cell rfl)) rfl ?_ | refine SW.st (st_load rfl (hb7.cell rfl)) rfl ?_) | (show SW _ _ _ _ (⟨_, Op.call ⟨.value (.func _), _, _⟩, _, _, _, none⟩ :: _) _ _; (refine SW.call rfl rfl (cP _ hw) ?_; intro v w1 hw1 hv; subst hv; replace hw := Ext.trans hw hw1; replace hb2 := hb2.ext hw1; replace hb3 := hb3.ext hw1; replace hb6 := hb6.ext hw1; replace hb7 := hb7.ext hw1; clear hw1)))
  all_goals first | (exfalso; omega) | skip
  clear cP
  refine CW.loop (fun j : Nat => [(2, .pointer (some ⟨b2, 0, none⟩)), (3, .pointer (some ⟨b3, 0, none⟩)), (5, .int .i64 (k : Int)), (6, .pointer (some ⟨b6, 0, none⟩)), (7, .pointer (some ⟨b7, 0, none⟩)), (8, .int .i64 (j : Int))])
   (fun j w' => j ≤ cs[k].Names.n ∧ Ext w w' ∧ Blk w' b2 30 (encSys r) ∧ Blk w' b3 30 (encSys q) ∧ Blk w' b6 44 (encC cs[k]) ∧ Blk w' b7 44 (encC cs'[k])) (fun j => cs[k].Names.n - j) 0
   ⟨rfl, rfl, rfl, rfl, rfl, rfl, trivial⟩ ⟨by omega, hw, hb2, hb3, hb6, hb7⟩ ?_
  clear hw hb2 hb3 hb6 hb7
  rintro j w' ⟨hj, hw, hb2, hb3, hb6, hb7⟩
  have hA1 := hck.names.base
  have hB1 := hck'.names.base
  by_cases hjn : j < cs[k].Names.n
  ·have hjn' : j < cs'[k].Names.n := by omega
   repeat' (first | (first | refine CW.seq ?_ | refine CW.region ?_ | refine CW.block ?_ | refine CW.condfr rfl (by with_reducible rfl) ?_ | refine CW.condd_t rfl (by omega) ?_ | refine CW.skip ?_ | (apply CW.quiet1 mixed; (· kernel_rfl); rotate_left; intro w1 hw1; replace hw := Ext.trans hw hw1; replace hb2 := hb2.ext hw1; replace hb3 := hb3.ext hw1; replace hb6 := hb6.ext hw1; replace hb7 := hb7.ext hw1; clear hw1; rotate_right)) | (first | refine Post.seq ?_ | refine Post.blk ?_) | refine SW.nil ?_ | refine SW.pure rfl rfl ?_ | refine SW.st (st_field rfl) rfl ?_ | (refine SW.st (st_add rfl rfl (by omega) (by omega)) rfl ?_) | (refine SW.st (st_indexN rfl rfl (by assumption) (by omega)) rfl ?_) | refine SW.st (st_len rfl) rfl ?_ | (show SW _ _ _ _ (⟨_, Op.load _ _, _, _, _, none⟩ :: _) _ _; first | refine SW.st (st_load rfl (hb6.cell rfl)) rfl ?_ | refine SW.st (st_load rfl (hb7.cell rfl)) rfl ?_ | refine SW.st (st_loadx hw rfl (hck.names.one hjn rfl)) rfl ?_ | refine SW.st (st_loadx hw rfl (hck'.names.one hjn' rfl)) rfl ?_) | (refine SW.st (st_neStr rfl rfl) rfl ?_) | exact SW.qnil rfl)
   exact Post.again (j + 1) ⟨rfl, rfl, rfl, rfl, rfl, rfl, trivial⟩ (by omega) ⟨by omega, hw, hb2, hb3, hb6, hb7⟩
  ·repeat' (first | (first | refine CW.seq ?_ | refine CW.region ?_ | refine CW.block ?_ | refine CW.condd_f rfl (by omega) ?_ | refine CW.exit ?_) | (first | refine Post.seq ?_ | refine Post.seq_exit ?_ | refine Post.hit ?_ | refine Post.again_exit ?_) | refine SW.nil ?_ | refine SW.pure rfl rfl ?_ | refine SW.st (st_field rfl) rfl ?_ | refine SW.st (st_len rfl) rfl ?_ | (show SW _ _ _ _ (⟨_, Op.load _ _, _, _, _, none⟩ :: _) _ _; refine SW.st (st_load rfl (hb6.cell rfl)) rfl ?_))
   clear hjn hj hA1 hB1
   refine CW.loop (fun j : Nat => [(2, .pointer (some ⟨b2, 0, none⟩)), (3, .pointer (some ⟨b3, 0, none⟩)), (5, .int .i64 (k : Int)), (6, .pointer (some ⟨b6, 0, none⟩)), (7, .pointer (some ⟨b7, 0, none⟩)), (9, .int .i64 (j : Int))])
    (fun j w' => j ≤ cs[k].Slabs.n ∧ Ext w w' ∧ Blk w' b2 30 (encSys r) ∧ Blk w' b3 30 (encSys q) ∧ Blk w' b6 44 (encC cs[k]) ∧ Blk w' b7 44 (encC cs'[k])) (fun j => cs[k].Slabs.n - j) 0
    ⟨rfl, rfl, rfl, rfl, rfl, rfl, trivial⟩ ⟨by omega, hw, hb2, hb3, hb6, hb7⟩ ?_
   clear hw hb2 hb3 hb6 hb7
   rintro j w' ⟨hj, hw, hb2, hb3, hb6, hb7⟩
   have hA1 := hck.slabs.base
   have hB1 := hck'.slabs.base
   by_cases hjn : j < cs[k].Slabs.n
   ·have hjn' : j < cs'[k].Slabs.n := by omega
    repeat' (first | (first | refine CW.seq ?_ | refine CW.region ?_ | refine CW.block ?_ | refine CW.condfr rfl (by with_reducible rfl) ?_ | refine CW.condd_t rfl (by omega) ?_ | refine CW.skip ?_ | (apply CW.quiet1 mixed; (· kernel_rfl); rotate_left; intro w1 hw1; replace hw := Ext.trans hw hw1; replace hb2 := hb2.ext hw1; replace hb3 := hb3.ext hw1; replace hb6 := hb6.ext hw1; replace hb7 := hb7.ext hw1; clear hw1; rotate_right)) | (first | refine Post.seq ?_ | refine Post.blk ?_) | refine SW.nil ?_ | refine SW.pure rfl rfl ?_ | refine SW.st (st_field rfl) rfl ?_ | (refine SW.st (st_add rfl rfl (by omega) (by omega)) rfl ?_) | (refine SW.st (st_indexN rfl rfl (by assumption) (by omega)) rfl ?_) | refine SW.st (st_len rfl) rfl ?_ | (show SW _ _ _ _ (⟨_, Op.load _ _, _, _, _, none⟩ :: _) _ _; first | refine SW.st (st_load rfl (hb6.cell rfl)) rfl ?_ | refine SW.st (st_load rfl (hb7.cell rfl)) rfl ?_ | refine SW.st (st_loadsx hw rfl rfl ((hck.slabs.all hjn))) rfl ?_ | refine SW.st (st_loadsx hw rfl rfl ((hck'.slabs.all hjn'))) rfl ?_) | (refine SW.st (st_neSS (Slab.nums (s.Caches[k]).Slabs[j]) rfl rfl rfl) rfl ?_) | exact SW.qnil rfl)
    exact Post.again (j + 1) ⟨rfl, rfl, rfl, rfl, rfl, rfl, trivial⟩ (by omega) ⟨by omega, hw, hb2, hb3, hb6, hb7⟩
   ·repeat' (first | (first | refine CW.seq ?_ | refine CW.region ?_ | refine CW.condd_f rfl (by omega) ?_ | refine CW.exit ?_) | (first | refine Post.seq ?_ | refine Post.seq_exit ?_ | refine Post.hit ?_ | refine Post.blk ?_ | refine Post.again_exit ?_) | refine SW.nil ?_ | refine SW.pure rfl rfl ?_ | refine SW.st (st_field rfl) rfl ?_ | (refine SW.st (st_add rfl rfl (by omega) (by omega)) rfl ?_) | refine SW.st (st_len rfl) rfl ?_ | (show SW _ _ _ _ (⟨_, Op.load _ _, _, _, _, none⟩ :: _) _ _; refine SW.st (st_load rfl (hb6.cell rfl)) rfl ?_))
    exact Post.again (k + 1) ⟨rfl, rfl, rfl, trivial⟩ (by omega) ⟨by omega, hw, hb2, hb3⟩
 ·repeat' (first | (first | refine CW.seq ?_ | refine CW.region ?_ | refine CW.condd_f rfl (by omega) ?_ | refine CW.ret ?_ | refine CW.exit ?_) | (first | refine Post.seq ?_ | refine Post.seq_exit ?_ | refine Post.hit ?_ | refine Post.again_exit ?_) | refine SW.nil ?_ | refine SW.pure rfl rfl ?_ | refine SW.st (st_field rfl) rfl ?_ | refine SW.st (st_len rfl) rfl ?_ | (show SW _ _ _ _ (⟨_, Op.load _ _, _, _, _, none⟩ :: _) _ _; refine SW.st (st_load rfl (hb2.cell rfl)) rfl ?_))
  exact Post.ret1 rfl rfl ⟨_, rfl, hw, rfl⟩
open Go.RowKit
theorem shrunkV_small {s : KSystem} (hf : s.fine) (n : ByteArray) : (shrunkV s n).1.small := by
 unfold shrunkV
 split
 ·split
  ·rename_i h
   have := shrinkF_ok s.Caches[(idxOf (hasN n) s.Caches).toNat].Slabs.length (p := (s.Heap, idleC s.Caches[(idxOf (hasN n) s.Caches).toNat])) hf.hok (hf.cok h).idle
   exact small_sysAt hf.small _ this.1 this.2
  ·exact KSystem.zero_small
 ·exact KSystem.zero_small
set_option maxHeartbeats 2000000 in
theorem slabShrinks_ans (r : SRow) (s : KSystem) (n : ByteArray) (w : World) (hr : RdS w r s) (hf : s.fine) (hns : n.size ≤ 140737488351232) :
  Ans Tryz.prog 3 [.agg (encSys r).toArray, .string n] w fun v _ => v = .bool true := by
 refine ans_of Tryz.func3 rfl Tryz.ntmps3 rfl ?_
 have hs := hf.small
 obtain ⟨o, ho⟩ : ∃ o, shrunkV s n = o := ⟨_, rfl⟩
 have hsm := shrunkV_small hf n
 rw [ho] at hsm
 refine CW.seq (CW.region (SW.box rfl rfl fun b1 w1 hw hb1b hb1 => ?_))
 repeat' (first | (first | refine CW.seq ?_ | refine CW.region ?_) | (refine Post.seq ?_) | refine SW.nil ?_ | refine SW.pure rfl rfl ?_ | (show SW _ _ _ _ (⟨_, Op.load _ _, _, _, _, none⟩ :: _) _ _; refine SW.st (st_loads rfl rfl ((fun _ _ => hb1.cell))) rfl ?_))
 refine SW.call rfl rfl (SystemCopyX_ans r s _ (hr.ext hw) hs) fun v w4 hw4 hv => ?_
 obtain ⟨k, cs, rfl, hKX, _⟩ := hv
 have hK := hKX.ownS
 clear hKX
 (replace hw := Ext.trans hw hw4; replace hb1 := hb1.ext hw4)
 refine SW.alloc rfl fun b3 w1 hw1 hb3b hb3 => ?_
 skip
 refine SW.storeAgg hb3 rfl rfl rfl rfl (one_s k) fun w2 hb3' hg => ?_
 have hXX := hw1.own hb3b hg
 have hb3w : w.heap.size ≤ b3 := Nat.le_trans hw.size hb3b
 replace hw := Ext.trans hw hXX
 replace hb1 := hb1.ext hXX
 replace hK := hK.ext hXX
 replace hb3 := hb3'
 clear hb3' hw1 hg hXX
 repeat' (first | (first | refine CW.seq ?_ | refine CW.region ?_) | (refine Post.seq ?_) | refine SW.nil ?_ | refine SW.pure rfl rfl ?_ | (show SW _ _ _ _ (⟨_, Op.load _ _, _, _, _, none⟩ :: _) _ _; refine SW.st (st_loads rfl rfl ((fun _ _ => hb3.cell))) rfl ?_))
 refine SW.call rfl rfl (Shrink_ans k s n _ hK.rd hf hns) fun v w5 hw5 hv => ?_
 rw [ho] at hv
 obtain ⟨s1, rfl, hs1⟩ := hv
 (replace hw := Ext.trans hw hw5; replace hb1 := hb1.ext hw5; replace hb3 := hb3.ext hw5; replace hK := hK.ext hw5)
 repeat' (refine SW.pure rfl rfl ?_)
 refine SW.alloc rfl fun b4 w1 hw1 hb4b hb4 => ?_
 skip
 refine SW.storeAgg hb4 rfl rfl rfl rfl (one_s s1) fun w2 hb4' hg => ?_
 have hXX := hw1.own hb4b hg
 have hb4w : w.heap.size ≤ b4 := Nat.le_trans hw.size hb4b
 replace hw := Ext.trans hw hXX
 replace hb1 := hb1.ext hXX
 replace hb3 := hb3.ext hXX
 replace hK := hK.ext hXX
 replace hs1 := hs1.ext hXX
 replace hb4 := hb4'
 clear hb4' hw1 hg hXX
 repeat' (first | (first | refine CW.seq ?_ | refine CW.region ?_) | (refine Post.seq ?_) | refine SW.nil ?_ | refine SW.pure rfl rfl ?_ | (show SW _ _ _ _ (⟨_, Op.load _ _, _, _, _, none⟩ :: _) _ _; refine SW.st (st_loads rfl rfl ((fun _ _ => hb1.cell))) rfl ?_))
 refine SW.call rfl rfl (ShrunkOf_ans r s n _ (hr.ext hw) hf) fun v w6 hw6 hv => ?_
 rw [ho] at hv
 obtain ⟨s2, rfl, hs2⟩ := hv
 (replace hw := Ext.trans hw hw6; replace hb1 := hb1.ext hw6; replace hb3 := hb3.ext hw6; replace hb4 := hb4.ext hw6; replace hK := hK.ext hw6; replace hs1 := hs1.ext hw6)
 repeat' (refine SW.pure rfl rfl ?_)
 refine SW.alloc rfl fun b6 w1 hw1 hb6b hb6 => ?_
 skip
 refine SW.storeAgg hb6 rfl rfl rfl rfl (one_s s2) fun w2 hb6' hg => ?_
 have hXX := hw1.own hb6b hg
 have hb6w : w.heap.size ≤ b6 := Nat.le_trans hw.size hb6b
 replace hw := Ext.trans hw hXX
 replace hb1 := hb1.ext hXX
 replace hb3 := hb3.ext hXX
 replace hb4 := hb4.ext hXX
 replace hK := hK.ext hXX
 replace hs1 := hs1.ext hXX
 replace hs2 := hs2.ext hXX
 replace hb6 := hb6'
 clear hb6' hw1 hg hXX
 have cA : ∀ w', Ext w w' → RdS w' s1 o.1 → RdS w' s2 o.1 → Ans Tryz.prog 9 [.agg (encSys s1).toArray, .agg (encSys s2).toArray] w' fun v _ => v = .bool true := fun w' _ h1 h2 => sameSystem_ans s1 s2 o.1 w' h1 h2 hsm
 have cB : ∀ w', Ext w w' → RdS w' k s → Ans Tryz.prog 9 [.agg (encSys k).toArray, .agg (encSys r).toArray] w' fun v _ => v = .bool true := fun w' hx h1 => sameSystem_ans k r s w' h1 (hr.ext hx) hs
 repeat' (first | (first | refine CW.seq ?_ | refine CW.region ?_ | refine CW.ret ?_) | (refine Post.seq ?_) | refine SW.nil ?_ | (show SW _ _ _ _ (⟨_, _, _, _, _, some _⟩ :: _) _ _; first | refine SW.want_t rfl rfl (by with_reducible rfl) ?_ | refine SW.splitd_t rfl rfl rfl (by omega) ?_) | refine SW.pure rfl rfl ?_ | (show SW _ _ _ _ (⟨_, Op.load _ _, _, _, _, none⟩ :: _) _ _; first | refine SW.st (st_loads rfl rfl ((fun _ _ => hb4.cell))) rfl ?_ | refine SW.st (st_loads rfl rfl ((fun _ _ => hb6.cell))) rfl ?_ | refine SW.st (st_loads rfl rfl ((fun _ _ => hb3.cell))) rfl ?_ | refine SW.st (st_loads rfl rfl ((fun _ _ => hb1.cell))) rfl ?_) | (show SW _ _ _ _ (⟨_, Op.call ⟨.value (.func _), _, _⟩, _, _, _, none⟩ :: _) _ _; first | (refine SW.call rfl rfl (cA _ hw hs1.rd hs2.rd) ?_; intro v w1 hw1 hv; subst hv; replace hw := Ext.trans hw hw1; replace hb1 := hb1.ext hw1; replace hb3 := hb3.ext hw1; replace hb4 := hb4.ext hw1; replace hb6 := hb6.ext hw1; replace hK := hK.ext hw1; replace hs1 := hs1.ext hw1; replace hs2 := hs2.ext hw1; clear hw1) | (refine SW.call rfl rfl (cB _ hw hK.rd) ?_; intro v w1 hw1 hv; subst hv; replace hw := Ext.trans hw hw1; replace hb1 := hb1.ext hw1; replace hb3 := hb3.ext hw1; replace hb4 := hb4.ext hw1; replace hb6 := hb6.ext hw1; replace hK := hK.ext hw1; replace hs1 := hs1.ext hw1; replace hs2 := hs2.ext hw1; clear hw1)))
 exact Post.ret1 rfl rfl ⟨_, rfl, hw, rfl⟩
end Go.Proofs.YtigikedbffjeiaaGreat
