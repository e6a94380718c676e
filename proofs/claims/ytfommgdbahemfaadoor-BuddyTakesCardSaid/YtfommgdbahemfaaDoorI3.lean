/-
  Contracts: withBlock, ZoneCopy of the reference; the program's test for overlaps.
-/
import Derived.Test.YtfommgdbahemfaaDoorI2
set_option linter.unusedVariables false
namespace Go.Proofs.YtfommgdbahemfaaDoor
open Go.RowKit

theorem gt_take {l : List Block} {a : Int} {k : Nat} (h : gtOf l a < k) : gtOf (l.take k) a = gtOf l a := by
  unfold gtOf at *
  by_cases hk : k ≤ l.length
  · have hlt : l.findIdx (fun b => decide (a < b.At)) < l.length := by omega
    refine (List.findIdx_eq (by simp; omega)).2 ⟨?_, fun j hj => ?_⟩
    · rw [List.getElem_take]; exact List.findIdx_getElem (w := hlt)
    · rw [List.getElem_take]; exact List.not_of_lt_findIdx hj |> fun h => by simpa using h
  · rw [List.take_of_length_le (by omega)]

set_option maxHeartbeats 4000000 in
theorem withBlock_ans (A : Option Addr) (n c : Nat) (l : List Block) (x : Block) (w : World) (hl : Sl w 3 encBk A n l) (hn : (n + 1) * 24 ≤ 140737488355328) :
    Ans Tryd.prog 32 [.slice A n c, .agg (encBk x).toArray] w fun v w' => ∃ B c', v = .slice B (n + 1) c' ∧ Own w' w.heap.size 55 3 encBk B (n + 1) c' (insAt l (gtOf l x.At) x) := by
  refine ans_of Tryd.func32 rfl Tryd.ntmps32 rfl ?_
  refine CW.seq (CW.region (SW.box rfl rfl fun b3 w1 hw hb3b hb3 => ?_))
  have hb3w := hb3b
  have hbd : ∀ m, m ≤ n → (m + 1) * 24 ≤ 140737488355328 := fun m h => Nat.le_trans (Nat.mul_le_mul_right 24 (Nat.succ_le_succ h)) hn
  clear hn
  have hn : n ≤ 1000000000000000000 := by have := hbd n (Nat.le_refl _); omega
  have hA := hl.base
  have hll := hl.len
  obtain ⟨g, hg0⟩ : ∃ g, gtOf l x.At = g := ⟨_, rfl⟩
  have hgl : g ≤ l.length := by rw [← hg0]; exact List.findIdx_le_length
  have hg1 : ∀ h : g < l.length, x.At < l[g].At := fun h => by
    subst hg0
    have := List.findIdx_getElem (w := h)
    exact of_decide_eq_true this
  have hg2 : ∀ (j : Nat) (h : j < g), (l[j]'(by omega)).At ≤ x.At := fun j h => by
    subst hg0
    have := List.not_of_lt_findIdx h
    simpa using this
  rw [hg0]
  clear hg0
  repeat' (first | (show CW _ _ _ _ _ _; first | refine CW.seq ?_ | refine CW.region ?_ | refine CW.block ?_) | (show Post _ _ _ _ _; refine Post.seq ?_) | refine SW.nil ?_ | refine SW.pure rfl rfl ?_)
  refine CW.loop (fun s : Nat × Option Addr × Nat => [(0, .slice A n c), (3, .pointer (some ⟨b3, 0, none⟩)), (5, .slice s.2.1 (if g < s.1 then s.1 + 1 else s.1) s.2.2), (6, .bool (decide (g < s.1))), (7, .int .i64 (s.1 : Int))])
    (fun s w' => s.1 ≤ n ∧ Ext w w' ∧ Blk w' b3 55 (encBk x) ∧ Own w' (b3 + 1) 55 3 encBk s.2.1 (if g < s.1 then s.1 + 1 else s.1) s.2.2 (if g < s.1 then insAt (l.take s.1) (g) x else l.take s.1)) (fun s => n - s.1) (0, none, 0)
    ⟨rfl, rfl, rfl, rfl, rfl, trivial⟩ ⟨by omega, hw, hb3, by simpa using Own.nil_ _ _ _ _ _ _⟩ ?_
  clear hw hb3
  rintro ⟨k, B, c'⟩ w' ⟨hk, hw, hb3, hO⟩
  simp only at hk hO ⊢
  have hlo : b3 + 1 ≤ w'.heap.size := hb3.lt
  by_cases hkn : k < n
  · have hkl := hl.lt hkn
    have et := List.take_succ_eq_append_getElem hkl
    by_cases hd : g < k
    · rw [if_pos hd, if_pos hd] at hO
      rw [if_pos hd, decide_eq_true hd]
      repeat' (first | (show CW _ _ _ _ _ _; first | refine CW.seq ?_ | refine CW.region ?_ | refine CW.block ?_ | refine CW.condfr rfl (by with_reducible rfl) ?_ | refine CW.condd_t rfl (by omega) ?_ | refine CW.skip ?_ | (apply CW.quiet1 mixed; (· kernel_rfl); rotate_left; intro w1 hw1; replace hw := Ext.trans hw hw1; replace hb3 := hb3.ext hw1; replace hO := hO.ext hw1; clear hw1; rotate_right)) | (show Post _ _ _ _ _; refine Post.seq ?_) | refine SW.nil ?_ | (show SW _ _ _ _ (⟨_, _, _, _, _, some _⟩ :: _) _ _; refine SW.skip rfl rfl rfl rfl ?_) | refine SW.pure rfl rfl ?_ | (show SW _ _ _ _ (⟨_, Op.indexAddr _ _ _, _, _, _, none⟩ :: _) _ _; refine SW.st (st_indexN rfl rfl (by assumption) (by omega)) rfl ?_) | (show SW _ _ _ _ (⟨_, Op.call ⟨.builtin .len, _, _⟩, _, _, _, none⟩ :: _) _ _; refine SW.st (st_len rfl) rfl ?_) | (show SW _ _ _ _ (⟨_, Op.load _ _, _, _, _, none⟩ :: _) _ _; refine SW.st (st_loadsx hw rfl rfl ((hl.all hkn))) rfl ?_) | exact SW.qnil rfl)
      refine SW.build1 rfl rfl rfl rfl rfl fun b w1 hXX hb hB => ?_
      (replace hw := Ext.trans hw hXX; replace hb3 := hb3.ext hXX; replace hO := hO.ext hXX)
      refine SW.append hO (Blk.sl1 (enc := encBk) hB) (by have := hb3.lt; omega) rfl rfl rfl (hbd _ (by omega)) (by omega) fun A2 c2 w2 hO1 hgr => ?_
      replace hw := ext_grown hw hgr (Nat.le_trans hb3w (Nat.le_succ _)) hO.row_ge
      replace hb3 := hb3.grown hgr (fun e => by have := hO.row_ge b3 e.symm; omega)
      repeat' (first | (show CW _ _ _ _ _ _; refine CW.region ?_) | (show Post _ _ _ _ _; first | refine Post.seq ?_ | refine Post.blk ?_) | refine SW.nil ?_ | refine SW.pure rfl rfl ?_ | (show SW _ _ _ _ (⟨_, Op.binOp _ _ _ _ _, _, _, _, none⟩ :: _) _ _; refine SW.st (st_add rfl rfl (by omega) (by omega)) rfl ?_))
      refine Post.again (k + 1, A2, c2) ⟨rfl, rfl, by simp only; rw [if_pos (show g < k + 1 by omega)]; rfl, by simp only; rw [decide_eq_true (show g < k + 1 by omega)]; rfl, rfl, trivial⟩ (by simp only; omega) ⟨by simp only; omega, hw, hb3, ?_⟩
      simp only
      rw [if_pos (by omega), if_pos (by omega)]
      have e : insAt (l.take (k + 1)) (g) x = insAt (l.take k) (g) x ++ [l[k]] := by
        unfold insAt
        rw [et, List.take_append_of_le_length (by simp; omega), List.drop_append_of_le_length (by simp; omega)]
        simp only [List.append_assoc]
      rw [e]; exact hO1
    · rw [if_neg hd, if_neg hd] at hO
      rw [if_neg hd, decide_eq_false hd]
      by_cases hge : g = k
      · have hgt : x.At < l[k].At := by subst hge; exact hg1 hkl
        repeat' (first | (show CW _ _ _ _ _ _; first | refine CW.seq ?_ | refine CW.region ?_ | refine CW.block ?_ | refine CW.condd_t rfl (by omega) ?_ | refine CW.skip ?_ | (apply CW.quiet1 mixed; (· kernel_rfl); rotate_left; intro w1 hw1; replace hw := Ext.trans hw hw1; replace hb3 := hb3.ext hw1; replace hO := hO.ext hw1; clear hw1; rotate_right)) | (show Post _ _ _ _ _; refine Post.seq ?_) | refine SW.nil ?_ | (show SW _ _ _ _ (⟨_, _, _, _, _, some _⟩ :: _) _ _; refine SW.want rfl rfl ?_) | refine SW.pure rfl rfl ?_ | (show SW _ _ _ _ (⟨_, Op.fieldAddr _ _ _, _, _, _, none⟩ :: _) _ _; refine SW.st (st_field rfl) rfl ?_) | (show SW _ _ _ _ (⟨_, Op.indexAddr _ _ _, _, _, _, none⟩ :: _) _ _; refine SW.st (st_indexN rfl rfl (by assumption) (by omega)) rfl ?_) | (show SW _ _ _ _ (⟨_, Op.call ⟨.builtin .len, _, _⟩, _, _, _, none⟩ :: _) _ _; refine SW.st (st_len rfl) rfl ?_) | (show SW _ _ _ _ (⟨_, Op.load _ _, _, _, _, none⟩ :: _) _ _; first | refine SW.st (st_loadx hw rfl (hl.fld hkn rfl)) rfl ?_ | refine SW.st (st_load rfl (hb3.cell rfl)) rfl ?_ | refine SW.st (st_loads rfl rfl ((fun _ _ => hb3.cell))) rfl ?_) | exact SW.qnil rfl)
        refine SW.build1 rfl rfl rfl rfl rfl fun b w1 hXX hb hB => ?_
        (replace hw := Ext.trans hw hXX; replace hb3 := hb3.ext hXX; replace hO := hO.ext hXX)
        refine SW.append hO (Blk.sl1 (enc := encBk) hB) (by have := hb3.lt; omega) rfl rfl rfl (hbd _ (by omega)) (by omega) fun A2 c2 w2 hO1 hgr => ?_
        replace hw := ext_grown hw hgr (Nat.le_trans hb3w (Nat.le_succ _)) hO.row_ge
        replace hb3 := hb3.grown hgr (fun e => by have := hO.row_ge b3 e.symm; omega)
        repeat' (first | (show CW _ _ _ _ _ _; refine CW.region ?_) | (show Post _ _ _ _ _; refine Post.seq ?_) | refine SW.nil ?_ | refine SW.pure rfl rfl ?_ | (show SW _ _ _ _ (⟨_, Op.indexAddr _ _ _, _, _, _, none⟩ :: _) _ _; refine SW.st (st_indexN rfl rfl (by assumption) (by omega)) rfl ?_) | (show SW _ _ _ _ (⟨_, Op.load _ _, _, _, _, none⟩ :: _) _ _; refine SW.st (st_loadsx hw rfl rfl ((hl.all hkn))) rfl ?_))
        refine SW.build1 rfl rfl rfl rfl rfl fun b w1 hXX hb hB => ?_
        (replace hw := Ext.trans hw hXX; replace hb3 := hb3.ext hXX; replace hO1 := hO1.ext hXX)
        refine SW.append hO1 (Blk.sl1 (enc := encBk) hB) (by have := hb3.lt; omega) rfl rfl rfl (hbd _ (by omega)) (by omega) fun A3 c3 w3 hO2 hgr => ?_
        replace hw := ext_grown hw hgr (Nat.le_trans hb3w (Nat.le_succ _)) hO1.row_ge
        replace hb3 := hb3.grown hgr (fun e => by have := hO1.row_ge b3 e.symm; omega)
        repeat' (first | (show CW _ _ _ _ _ _; refine CW.region ?_) | (show Post _ _ _ _ _; first | refine Post.seq ?_ | refine Post.blk ?_) | refine SW.nil ?_ | refine SW.pure rfl rfl ?_ | (show SW _ _ _ _ (⟨_, Op.binOp _ _ _ _ _, _, _, _, none⟩ :: _) _ _; refine SW.st (st_add rfl rfl (by omega) (by omega)) rfl ?_))
        refine Post.again (k + 1, A3, c3) ⟨rfl, rfl, by simp only; rw [if_pos (show g < k + 1 by omega)]; rfl, by simp only; rw [decide_eq_true (show g < k + 1 by omega)]; rfl, rfl, trivial⟩ (by simp only; omega) ⟨by simp only; omega, hw, hb3, ?_⟩
        simp only
        rw [if_pos (by omega), if_pos (by omega)]
        have e : insAt (l.take (k + 1)) (g) x = l.take k ++ [x] ++ [l[k]] := by
          unfold insAt
          rw [hge, et, List.take_append_of_le_length (by simp; omega), List.drop_append_of_le_length (by simp; omega), List.take_of_length_le (by simp; omega), List.drop_eq_nil_of_le (by simp; omega)]
          simp
        rw [e]; exact hO2
      · have hle : l[k].At ≤ x.At := hg2 k (by omega)
        repeat' (first | (show CW _ _ _ _ _ _; first | refine CW.seq ?_ | refine CW.region ?_ | refine CW.block ?_ | refine CW.condd_t rfl (by omega) ?_ | refine CW.condd_f rfl (by omega) ?_ | refine CW.skip ?_ | (apply CW.quiet1 mixed; (· kernel_rfl); rotate_left; intro w1 hw1; replace hw := Ext.trans hw hw1; replace hb3 := hb3.ext hw1; replace hO := hO.ext hw1; clear hw1; rotate_right)) | (show Post _ _ _ _ _; refine Post.seq ?_) | refine SW.nil ?_ | (show SW _ _ _ _ (⟨_, _, _, _, _, some _⟩ :: _) _ _; refine SW.want rfl rfl ?_) | refine SW.pure rfl rfl ?_ | (show SW _ _ _ _ (⟨_, Op.fieldAddr _ _ _, _, _, _, none⟩ :: _) _ _; refine SW.st (st_field rfl) rfl ?_) | (show SW _ _ _ _ (⟨_, Op.indexAddr _ _ _, _, _, _, none⟩ :: _) _ _; refine SW.st (st_indexN rfl rfl (by assumption) (by omega)) rfl ?_) | (show SW _ _ _ _ (⟨_, Op.call ⟨.builtin .len, _, _⟩, _, _, _, none⟩ :: _) _ _; refine SW.st (st_len rfl) rfl ?_) | (show SW _ _ _ _ (⟨_, Op.load _ _, _, _, _, none⟩ :: _) _ _; first | refine SW.st (st_loadsx hw rfl rfl ((hl.all hkn))) rfl ?_ | refine SW.st (st_loadx hw rfl (hl.fld hkn rfl)) rfl ?_ | refine SW.st (st_load rfl (hb3.cell rfl)) rfl ?_) | exact SW.qnil rfl)
        refine SW.build1 rfl rfl rfl rfl rfl fun b w1 hXX hb hB => ?_
        (replace hw := Ext.trans hw hXX; replace hb3 := hb3.ext hXX; replace hO := hO.ext hXX)
        refine SW.append hO (Blk.sl1 (enc := encBk) hB) (by have := hb3.lt; omega) rfl rfl rfl (hbd _ (by omega)) (by omega) fun A2 c2 w2 hO1 hgr => ?_
        replace hw := ext_grown hw hgr (Nat.le_trans hb3w (Nat.le_succ _)) hO.row_ge
        replace hb3 := hb3.grown hgr (fun e => by have := hO.row_ge b3 e.symm; omega)
        repeat' (first | (show CW _ _ _ _ _ _; refine CW.region ?_) | (show Post _ _ _ _ _; first | refine Post.seq ?_ | refine Post.blk ?_) | refine SW.nil ?_ | refine SW.pure rfl rfl ?_ | (show SW _ _ _ _ (⟨_, Op.binOp _ _ _ _ _, _, _, _, none⟩ :: _) _ _; refine SW.st (st_add rfl rfl (by omega) (by omega)) rfl ?_))
        refine Post.again (k + 1, A2, c2) ⟨rfl, rfl, by simp only; rw [if_neg (show ¬ g < k + 1 by omega)]; rfl, by simp only; rw [decide_eq_false (show ¬ g < k + 1 by omega)]; rfl, rfl, trivial⟩ (by simp only; omega) ⟨by simp only; omega, hw, hb3, ?_⟩
        simp only
        rw [if_neg (by omega), if_neg (by omega), et]
        exact hO1
  · obtain rfl : k = n := by omega
    rw [List.take_of_length_le (by omega)] at hO
    by_cases hd : g < k
    · rw [if_pos hd, if_pos hd] at hO
      rw [if_pos hd, decide_eq_true hd]
      repeat' (first | (show CW _ _ _ _ _ _; first | refine CW.seq ?_ | refine CW.region ?_ | refine CW.condd_f rfl (by omega) ?_ | refine CW.condf rfl ?_ | refine CW.skip ?_ | refine CW.ret ?_ | refine CW.exit ?_) | (show Post _ _ _ _ _; first | refine Post.seq ?_ | refine Post.seq_exit ?_ | refine Post.hit ?_ | refine Post.again_exit ?_) | refine SW.nil ?_ | refine SW.pure rfl rfl ?_ | (show SW _ _ _ _ (⟨_, Op.call ⟨.builtin .len, _, _⟩, _, _, _, none⟩ :: _) _ _; refine SW.st (st_len rfl) rfl ?_))
      exact Post.ret1 rfl rfl ⟨_, rfl, hw, _, _, rfl, hO.low (by omega)⟩
    · rw [if_neg hd, if_neg hd] at hO
      rw [if_neg hd, decide_eq_false hd]
      repeat' (first | (show CW _ _ _ _ _ _; first | refine CW.seq ?_ | refine CW.region ?_ | refine CW.condd_f rfl (by omega) ?_ | refine CW.condt rfl ?_ | refine CW.exit ?_) | (show Post _ _ _ _ _; first | refine Post.seq ?_ | refine Post.seq_exit ?_ | refine Post.hit ?_ | refine Post.again_exit ?_) | refine SW.nil ?_ | refine SW.pure rfl rfl ?_ | (show SW _ _ _ _ (⟨_, Op.call ⟨.builtin .len, _, _⟩, _, _, _, none⟩ :: _) _ _; refine SW.st (st_len rfl) rfl ?_) | (show SW _ _ _ _ (⟨_, Op.load _ _, _, _, _, none⟩ :: _) _ _; refine SW.st (st_loads rfl rfl ((fun _ _ => hb3.cell))) rfl ?_))
      refine SW.build1 rfl rfl rfl rfl rfl fun b w1 hXX hb hB => ?_
      (replace hw := Ext.trans hw hXX; replace hb3 := hb3.ext hXX; replace hO := hO.ext hXX)
      refine SW.append hO (Blk.sl1 (enc := encBk) hB) (by have := hb3.lt; omega) rfl rfl rfl (hbd _ (by omega)) (by omega) fun A2 c2 w2 hO1 hgr => ?_
      replace hw := ext_grown hw hgr (Nat.le_trans hb3w (Nat.le_succ _)) hO.row_ge
      repeat' (first | (show CW _ _ _ _ _ _; first | refine CW.seq ?_ | refine CW.region ?_ | refine CW.ret ?_) | (show Post _ _ _ _ _; refine Post.seq ?_) | refine SW.nil ?_ | refine SW.pure rfl rfl ?_)
      refine Post.ret1 rfl rfl ⟨_, rfl, hw, _, _, rfl, ?_⟩
      have e : insAt l (g) x = l ++ [x] := by
        unfold insAt
        rw [List.take_of_length_le (by omega), List.drop_eq_nil_of_le (by omega)]
        simp
      rw [e]
      exact hO1.low (by omega)

theorem overC_ans (a o : Int) (b9 : Nat) (x : Block) (w : World) (h9 : Blk w b9 55 (encBk ⟨a, o, 0⟩)) (ho : 0 ≤ o ∧ o ≤ 4) (ha : 0 ≤ a ∧ a ≤ 256) (hx : 0 ≤ x.At ∧ x.At ≤ 256) (hy : 0 ≤ x.Order ∧ x.Order ≤ 4) :
    Ans Tryd.prog 139 ([.agg (encBk x).toArray] ++ [.pointer (some ⟨b9, 0, none⟩)]) w fun v _ => v = .bool (decide (x.At < a + pw o) && decide (a < x.At + pw x.Order)) := by
  refine ans_of Tryd.func139 rfl Tryd.ntmps139 rfl ?_
  refine CW.seq (CW.region (SW.box rfl rfl fun b2 w1 hw hb2b hb2 => ?_))
  replace h9 := h9.ext hw
  have c1 : ∀ w', Ans Tryd.prog 23 [.agg (encBk ⟨a, o, 0⟩).toArray] w' fun v _ => v = .int .i64 (a + pw o) := fun w' => Zend_ans ⟨a, o, 0⟩ w' ho ha
  have c2 : ∀ w', Ans Tryd.prog 23 [.agg (encBk x).toArray] w' fun v _ => v = .int .i64 (x.At + pw x.Order) := fun w' => Zend_ans x w' hy hx
  by_cases h1 : x.At < a + pw o
  · repeat' (first | (show CW _ _ _ _ _ _; first | refine CW.seq ?_ | refine CW.ret ?_ | (apply CW.quiet1 mixed; (· kernel_rfl); rotate_left; intro w1 hw1; replace hw := Ext.trans hw hw1; replace hb2 := hb2.ext hw1; replace h9 := h9.ext hw1; clear hw1; rotate_right)) | (show Post _ _ _ _ _; refine Post.seq ?_) | refine SW.nil ?_ | (show SW _ _ _ _ (⟨_, _, _, _, _, some _⟩ :: _) _ _; first | refine SW.want_t rfl rfl (by with_reducible rfl) ?_ | refine SW.splitd_t rfl rfl rfl (by omega) ?_) | refine SW.pure rfl rfl ?_ | (show SW _ _ _ _ (⟨_, Op.fieldAddr _ _ _, _, _, _, none⟩ :: _) _ _; refine SW.st (st_field rfl) rfl ?_) | (show SW _ _ _ _ (⟨_, Op.load _ _, _, _, _, none⟩ :: _) _ _; first | refine SW.st (st_load rfl (hb2.cell rfl)) rfl ?_ | refine SW.st (st_loads rfl rfl ((fun _ _ => hb2.cell))) rfl ?_ | refine SW.st (st_load rfl (h9.cell rfl)) rfl ?_ | refine SW.st (st_loads rfl rfl ((fun _ _ => h9.cell))) rfl ?_) | (show SW _ _ _ _ (⟨_, Op.call ⟨.value (.func _), _, _⟩, _, _, _, none⟩ :: _) _ _; first | refine SW.qcall rfl rfl (fun w1 hw1 => (c1 _)) ?_ | refine SW.qcall rfl rfl (fun w1 hw1 => (c2 _)) ?_) | exact SW.qnil rfl)
    exact Post.ret1 rfl rfl ⟨_, rfl, hw, by simp [h1]⟩
  · repeat' (first | (show CW _ _ _ _ _ _; first | refine CW.seq ?_ | refine CW.ret ?_ | (apply CW.quiet1 mixed; (· kernel_rfl); rotate_left; intro w1 hw1; replace hw := Ext.trans hw hw1; replace hb2 := hb2.ext hw1; replace h9 := h9.ext hw1; clear hw1; rotate_right)) | (show Post _ _ _ _ _; refine Post.seq ?_) | refine SW.nil ?_ | (show SW _ _ _ _ (⟨_, _, _, _, _, some _⟩ :: _) _ _; first | refine SW.skip_t rfl rfl (by with_reducible rfl) rfl ?_ | refine SW.splitd_f rfl rfl rfl (by omega) ?_) | refine SW.pure rfl rfl ?_ | (show SW _ _ _ _ (⟨_, Op.fieldAddr _ _ _, _, _, _, none⟩ :: _) _ _; refine SW.st (st_field rfl) rfl ?_) | (show SW _ _ _ _ (⟨_, Op.load _ _, _, _, _, none⟩ :: _) _ _; first | refine SW.st (st_load rfl (hb2.cell rfl)) rfl ?_ | refine SW.st (st_loads rfl rfl ((fun _ _ => h9.cell))) rfl ?_) | (show SW _ _ _ _ (⟨_, Op.call ⟨.value (.func _), _, _⟩, _, _, _, none⟩ :: _) _ _; refine SW.qcall rfl rfl (fun w1 hw1 => (c1 _)) ?_) | exact SW.qnil rfl)
    exact Post.ret1 rfl rfl ⟨_, rfl, hw, by simp [h1]⟩

theorem ZoneCopy_ans (r : ZRow) (z : Zone) (w : World) (hr : RdZ w r z) (hn : r.Free.n * 24 ≤ 140737488355328) (hm : r.Types.n * 8 ≤ 140737488355328) :
    Ans Tryd.prog 6 [.agg (encZ r).toArray] w fun v w' => ∃ s, v = .agg (encZ s).toArray ∧ OwnZ w' w.heap.size s z := by
  refine ans_of Tryd.func6 rfl Tryd.ntmps6 rfl ?_
  refine CW.seq (CW.region (SW.box rfl rfl fun b w1 hw hb hB => ?_))
  refine SW.alloc rfl fun b2 w2 hw2 hb2b hb2 => ?_
  have hb2w : w.heap.size ≤ b2 := Nat.le_trans hw.size hb2b
  (replace hw := Ext.trans hw hw2; replace hB := hB.ext hw2)
  repeat' (first | (show CW _ _ _ _ _ _; refine CW.seq ?_) | (show Post _ _ _ _ _; refine Post.seq ?_) | refine SW.nil ?_)
  refine CW.any 10 mixed (rb_tail (by kernel_rfl)) rfl fun w1 hw1 hRB => ?_
  replace hw := Ext.trans hw hw1; replace hB := hB.ext hw1; replace hb2 := hb2.ext hw1; clear hw1
  refine SA.take 0 hRB rfl (by kernel_rfl) (by kernel_rfl) rfl ?_
  repeat ((show SW _ _ _ _ (⟨_, Op.fieldAddr _ _ _, _, _, _, none⟩ :: _) _ _; refine SW.st (st_field rfl) rfl ?_))
  refine SW.tknil ?_
  refine SA.take 1 hRB rfl (by kernel_rfl) (by kernel_rfl) rfl ?_
  repeat ((show SW _ _ _ _ (⟨_, Op.load _ _, _, _, _, none⟩ :: _) _ _; refine SW.st (st_load rfl (hB.cell rfl)) rfl ?_))
  refine SW.tknil ?_
  refine SA.take 2 hRB rfl (by kernel_rfl) (by kernel_rfl) rfl ?_
  repeat ((show SW _ _ _ _ (⟨_, Op.fieldAddr _ _ _, _, _, _, none⟩ :: _) _ _; refine SW.st (st_field rfl) rfl ?_))
  refine SW.tknil ?_
  refine SA.take 3 hRB rfl (by kernel_rfl) (by kernel_rfl) rfl ?_
  repeat ((show SW _ _ _ _ (⟨_, Op.load _ _, _, _, _, none⟩ :: _) _ _; refine SW.st (st_load rfl (hB.cell rfl)) rfl ?_))
  refine SW.tknil ?_
  refine SA.take 4 hRB rfl (by kernel_rfl) (by kernel_rfl) rfl ?_
  repeat ((show SW _ _ _ _ (⟨_, Op.fieldAddr _ _ _, _, _, _, none⟩ :: _) _ _; refine SW.st (st_field rfl) rfl ?_))
  refine SW.tknil ?_
  refine SA.take 5 hRB rfl (by kernel_rfl) (by kernel_rfl) rfl ?_
  repeat ((show SW _ _ _ _ (⟨_, Op.load _ _, _, _, _, none⟩ :: _) _ _; refine SW.st (st_load rfl (hB.cell rfl)) rfl ?_))
  refine SW.tknil ?_
  refine SA.take 7 hRB rfl (by kernel_rfl) (by kernel_rfl) rfl ?_
  repeat ((show SW _ _ _ _ (⟨_, Op.fieldAddr _ _ _, _, _, _, none⟩ :: _) _ _; refine SW.st (st_field rfl) rfl ?_))
  refine SW.tknil ?_
  refine SA.take 8 hRB rfl (by kernel_rfl) (by kernel_rfl) rfl ?_
  repeat ((show SW _ _ _ _ (⟨_, Op.load _ _, _, _, _, none⟩ :: _) _ _; refine SW.st (st_load rfl (hB.cell rfl)) rfl ?_))
  refine SW.tknil ?_
  refine SA.one 6 rfl (by kernel_rfl) rfl ?_
  refine SW.call rfl rfl (blocks_ans _ _ _ _ _ (hr.free.ext hw) hn) fun v w4 hXX hv => ?_
  obtain ⟨X, c4, rfl, hX⟩ := hv
  replace hX := hX.low hw.size
  (replace hw := Ext.trans hw hXX; replace hB := hB.ext hXX; replace hb2 := hb2.ext hXX)
  refine SW.nil (Post.sa hXX ?_)
  refine SA.one 9 rfl (by kernel_rfl) rfl ?_
  refine SW.call rfl rfl (words_ans _ _ _ _ _ (hr.types.ext hw) hm) fun v w4 hXX hv => ?_
  obtain ⟨Y, d4, rfl, hY⟩ := hv
  replace hY := hY.low hw.size
  (replace hw := Ext.trans hw hXX; replace hB := hB.ext hXX; replace hb2 := hb2.ext hXX; replace hX := hX.ext hXX)
  refine SW.nil (Post.sa hXX ?_)
  refine SA.done (by kernel_rfl) ?_
  repeat' ((show SW _ _ _ _ (⟨_, Op.build _ _, _, _, _, none⟩ :: _) _ _; refine SW.st (st_build rfl rfl) rfl ?_))
  refine SW.storeAgg hb2 rfl rfl rfl rfl (one_z ⟨r.From, r.To, ⟨X, r.Free.n, c4⟩, ⟨Y, r.Types.n, d4⟩⟩) fun w7 hR2 hg => ?_
  have hG := hb2.gr hg
  replace hw := hw.own hb2w hg
  (replace hX := hX.grT hG rfl; replace hY := hY.grT hG rfl)
  repeat' (first | (show CW _ _ _ _ _ _; refine CW.ret ?_) | (show Post _ _ _ _ _; first | refine Post.seq ?_ | refine Post.np ?_) | refine SW.nil ?_)
  exact Post.ret1c rfl rfl hR2 rfl ⟨_, rfl, hw, ⟨r.From, r.To, ⟨X, r.Free.n, c4⟩, ⟨Y, r.Types.n, d4⟩⟩, rfl, ⟨hr.from_, hr.to_, hX, hY⟩⟩
end Go.Proofs.YtfommgdbahemfaaDoor
