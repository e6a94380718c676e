/-
  Contracts: slices.Delete of one, slices.Insert of one.
-/
import Derived.Test.YtfommgdbahemfaaDoorCopy
import Derived.Test.YtfommgdbahemfaaDoorC1
import Derived.Test.YtfommgdbahemfaaDoorPBack
import Derived.Test.YtfommgdbahemfaaDoorH1
set_option linter.unusedVariables false
namespace Go.Proofs.YtfommgdbahemfaaDoor
open Go.RowKit


set_option maxHeartbeats 4000000 in
theorem DeleteBlock_ans (A : Option Addr) (n c lo : Nat) (l : List Block) (w : World) (hO : Own w lo 55 3 encBk A n c l) (i : Nat) (hi : i < n) (hn : n ≤ 1000000000000000000) (hlo : lo ≤ w.heap.size) :
    AnsX Tryd.prog 22 [.slice A n c, .int .i64 (i : Int), .int .i64 ((i + 1 : Nat) : Int)] w fun v w' => v = .slice A (n - 1) c ∧ Own w' lo 55 3 encBk A (n - 1) c (l.eraseIdx i) ∧ w.grownBy w' (ownB A c) := by
  refine ansx_of Tryd.func22 rfl Tryd.ntmps22 rfl ?_
  have hle := hO.le
  have hll := hO.len
  have hA := hO.sl.base
  have hg0 : w.grownBy w (ownB A c) := World.grownBy.refl _ _
  repeat' (first | (show CW _ _ _ _ _ _; first | refine CW.seq ?_ | refine CW.region ?_ | refine CW.condd_f rfl (by omega) ?_ | refine CW.skip ?_) | (show Post _ _ _ _ _; refine Post.seq ?_) | refine SW.nil ?_ | refine SW.pure rfl rfl ?_ | (show SW _ _ _ _ (⟨_, Op.call ⟨.builtin .len, _, _⟩, _, _, _, none⟩ :: _) _ _; refine SW.st (st_len rfl) rfl ?_) | (refine SW.st (st_slice3 (i := i) (j := i + 1) (k := n) rfl rfl rfl rfl (by omega) (by omega) (by omega)) rfl ?_))
  all_goals first | (exfalso; omega) | skip
  have hw := Ext.refl w
  have e0 : i + (n - (i + 1)) = n - 1 := by omega
  have el : l.take i ++ l.drop (i + 1) = l.eraseIdx i := by rw [List.eraseIdx_eq_take_drop_succ]
  refine CW.any 6 mixed (rb_tail (by kernel_rfl)) rfl fun w1 hw1 hRB => ?_
  replace hw := Ext.trans hw hw1; replace hO := hO.ext hw1; clear hw1
  refine SA.take 0 hRB rfl (by kernel_rfl) (by kernel_rfl) rfl ?_
  repeat (refine SW.pure rfl rfl ?_)
  refine SW.tknil ?_
  refine SA.take 1 hRB rfl (by kernel_rfl) (by kernel_rfl) rfl ?_
  repeat (refine SW.pure rfl rfl ?_)
  refine SW.tknil ?_
  refine SA.take 2 hRB rfl (by kernel_rfl) (by kernel_rfl) rfl ?_
  repeat ((refine SW.st (st_sliceHi (k := i) rfl rfl (by omega)) rfl ?_))
  refine SW.tknil ?_
  refine SA.take 3 hRB rfl (by kernel_rfl) (by kernel_rfl) rfl ?_
  repeat (refine SW.pure rfl rfl ?_)
  refine SW.tknil ?_
  refine SA.take 4 hRB rfl (by kernel_rfl) (by kernel_rfl) rfl ?_
  repeat (refine SW.pure rfl rfl ?_)
  refine SW.tknil ?_
  refine SA.take 5 hRB rfl (by kernel_rfl) (by kernel_rfl) rfl ?_
  repeat ((refine SW.st (st_sliceLo (k := i + 1) rfl rfl (by omega) (by omega)) rfl ?_))
  refine SW.tknil ?_
  refine SA.done (by kernel_rfl) ?_
  refine SW.appendIn (hO.pre (i := i) (by omega)) (hO.sl.drop (i + 1) c (by omega) (by omega)) (by omega) rfl rfl rfl fun w2 hO2 hg => ?_
  rw [e0, el] at hO2
  rw [e0]
  have hG1 := (hw.gr (ownB A c))
  repeat' (first | (show CW _ _ _ _ _ _; first | refine CW.seq ?_ | refine CW.region ?_) | (show Post _ _ _ _ _; first | refine Post.seq ?_ | refine Post.np ?_) | refine SW.nil ?_ | refine SW.pure rfl rfl ?_ | (show SW _ _ _ _ (⟨_, Op.call ⟨.builtin .len, _, _⟩, _, _, _, none⟩ :: _) _ _; refine SW.st (st_len rfl) rfl ?_) | (refine SW.st (st_sliceLH (i := n - 1) (j := n) rfl rfl rfl (by omega) (by omega)) rfl ?_))
  obtain ⟨g, rest, rfl, h1, h2, h3, h4, h5, h6⟩ := hO2.opened (by omega)
  have hfl : ((l.eraseIdx i).flatMap encBk).length = (n - 1) * 3 := by rw [length_flatMap_enc, hO2.len]
  refine SW.clear ((n - 1) * 3) h2 rfl (by rw [List.length_append, hfl]; omega) (fun h0 => ?_) (by decide) fun w3 cs hcs hB hg3 => ?_
  · rw [if_neg (by omega)]; simp [addr_of]
  · have e7 := lay_mid ((l.eraseIdx i).flatMap encBk) (rest.take ((n - (n - 1)) * 3)) (rest.drop ((n - (n - 1)) * 3)) cs (by rw [hcs]; simp; omega) (o := (n - 1) * 3) hfl.symm
    rw [List.append_assoc (List.flatMap _ _), List.take_append_drop] at e7
    rw [e7, List.append_assoc] at hB
    have hO3 := Own.closed (l := l.eraseIdx i) hO2.len hB (by rw [List.length_append, hcs]; simp; omega) h4 (by omega) h5 h1
    rw [← h6] at hg3
    have hgg := grown_trans (grown_trans hG1 hg (.inl rfl)) hg3 (.inl rfl)
    repeat' (first | (show CW _ _ _ _ _ _; first | refine CW.seq ?_ | refine CW.region ?_ | refine CW.ret ?_) | (show Post _ _ _ _ _; refine Post.seq ?_) | refine SW.nil ?_ | refine SW.pure rfl rfl ?_)
    exact Post.ret1 rfl rfl ⟨_, rfl, rfl, hO3, hgg⟩

set_option maxHeartbeats 4000000 in
theorem InsertBlock_ans (A : Option Addr) (n c lo : Nat) (l : List Block) (w : World) (hO : Own w lo 55 3 encBk A n c l) (i : Nat) (hi : i ≤ n) (x : Block) (b : Nat) (hB : Blk w b 55 (encBk x)) (hne : ownB A c ≠ some b) (hn : (n + 1) * 24 ≤ 140737488355328) (hlo : lo ≤ w.heap.size) :
    AnsX Tryd.prog 25 [.slice A n c, .int .i64 (i : Int), .slice (some ⟨b, 0, none⟩) 1 1] w fun v w' => ∃ A' c', v = .slice A' (n + 1) c' ∧ Own w' lo 55 3 encBk A' (n + 1) c' (insAt l i x) ∧ w.grownBy w' (ownB A c) := by
  refine ansx_of Tryd.func25 rfl Tryd.ntmps25 rfl ?_
  have hle := hO.le
  have hll := hO.len
  have hA := hO.sl.base
  have hw := Ext.refl w
  have hx1 : Sl w 3 encBk (some ⟨b, 0, none⟩) 1 [x] := Blk.sl1 hB
  have hxl : (encBk x).length = 3 := rfl
  have hfl : ∀ q : List Block, (q.flatMap encBk).length = q.length * 3 := fun q => length_flatMap_enc q
  have hone : ∀ (q : List Block) (v : Value), v ∈ q.flatMap encBk → v.oneCell' = true := fun q v hv => by
    obtain ⟨u, _, hu⟩ := List.mem_flatMap.1 hv
    exact Enc.one (enc := encBk) u v hu
  by_cases hin : i = n
  · subst hin
    repeat' (first | (show CW _ _ _ _ _ _; first | refine CW.seq ?_ | refine CW.region ?_ | refine CW.condd_t rfl (by omega) ?_ | refine CW.condd_f rfl (by omega) ?_ | refine CW.skip ?_) | (show Post _ _ _ _ _; refine Post.seq ?_) | refine SW.nil ?_ | refine SW.pure rfl rfl ?_ | (show SW _ _ _ _ (⟨_, Op.call ⟨.builtin .len, _, _⟩, _, _, _, none⟩ :: _) _ _; refine SW.st (st_len rfl) rfl ?_) | (refine SW.st (st_sliceLo (k := i) rfl rfl (by omega) (by omega)) rfl ?_))
    all_goals first | (exfalso; omega) | skip
    refine SW.append hO hx1 hlo rfl rfl rfl (by omega) (by omega) fun A2 c2 w2 hO2 hg => ?_
    repeat' (first | (show CW _ _ _ _ _ _; refine CW.ret ?_) | (show Post _ _ _ _ _; first | refine Post.seq ?_ | refine Post.seq_ret ?_) | refine SW.nil ?_ | refine SW.pure rfl rfl ?_)
    refine Post.ret1 rfl rfl ⟨_, rfl, A2, c2, rfl, ?_, hg⟩
    have e : insAt l i x = l ++ [x] := by unfold insAt; rw [List.take_of_length_le (by omega), List.drop_eq_nil_of_le (by omega)]; simp
    rw [e]; exact hO2
  · by_cases hroom : n + 1 ≤ c
    · obtain ⟨g, rest, rfl, h1, h2, h3, h4, h5, h6⟩ := hO.opened (by omega)
      have hgb : g ≠ b := fun e => hne (by rw [h6, e])
      have es : l.flatMap encBk ++ rest = (l.take i).flatMap encBk ++ ((l.drop i).flatMap encBk ++ rest) := by rw [← List.append_assoc, ← List.flatMap_append, List.take_append_drop]
      have e1 : ((l.take i).flatMap encBk).length = i * 3 := by rw [hfl]; simp; omega
      have e2 : ((l.drop i).flatMap encBk).length = (n - i) * 3 := by rw [hfl]; simp [hll]
      have hsrc := hO.sl.drop i c (by omega) (by omega)
      rw [if_neg (by omega)] at hsrc
      rw [es] at h2
      have hov : ∀ w', Ext w w' → (Extern.SlicesOverlaps.overlaps #[22, 22] #[4] #[.slice (some ⟨b, 0, none⟩) 1 1, .slice (if c = i + 1 then (some ⟨g, 0, none⟩) else (some (⟨g, 0, none⟩ : Addr)).map (·.add ((i + 1) * 3))) (n + 1 - (i + 1)) (c - (i + 1))]).run Tryd.prog w' = .ok (.bool false) w' := fun w' hx => by
        rw [if_neg (by omega), Option.map_some, addr_of]
        have b1 := hB.ext hx
        have b2 := h2.ext hx
        unfold Blk at b1 b2
        exact Lib.run_overlaps_apart w' 22 4 55 (SliceTy.und (t := 22)) 3 (fun w0 => run_sizeOf (SliceTy.size (t := 22)) w0) ⟨b, 0, none⟩ ⟨g, (i + 1) * 3, none⟩ 1 1 _ _ (fun e => hgb e.symm) 55 55 (encBk x).toArray.size ((l.take i).flatMap encBk ++ ((l.drop i).flatMap encBk ++ rest)).toArray.size
          (by simp only [World.shape?, b1]) (by simp only [World.shape?, b2]) (by simp [e1, e2]; omega) (by simp [World.frozen?, b1]) (by simp [World.frozen?, b1])
      repeat' (first | (show CW _ _ _ _ _ _; first | refine CW.seq ?_ | refine CW.region ?_ | refine CW.condd_f rfl (by omega) ?_ | refine CW.condt rfl ?_ | refine CW.skip ?_) | (show Post _ _ _ _ _; refine Post.seq ?_) | refine SW.nil ?_ | refine SW.pure rfl rfl ?_ | (show SW _ _ _ _ (⟨_, Op.binOp _ _ _ _ _, _, _, _, none⟩ :: _) _ _; refine SW.st (st_add rfl rfl (by omega) (by omega)) rfl ?_) | (show SW _ _ _ _ (⟨_, Op.call ⟨.builtin .len, _, _⟩, _, _, _, none⟩ :: _) _ _; refine SW.st (st_len rfl) rfl ?_) | (show SW _ _ _ _ (⟨_, Op.call ⟨.builtin .cap, _, _⟩, _, _, _, none⟩ :: _) _ _; refine SW.st (st_cap rfl) rfl ?_) | (refine SW.st (st_sliceLo (k := i) rfl rfl (by omega) (by omega)) rfl ?_) | (refine SW.st (st_sliceHi (k := n + 1) rfl rfl (by omega)) rfl ?_) | (refine SW.st (st_sliceLo (k := i + 1) rfl rfl (by omega) (by omega)) rfl ?_) | (refine SW.entry Tryd.func62 (by kernel_rfl) (by kernel_rfl) (by kernel_rfl) (e := Extern.SlicesOverlaps.overlaps #[22, 22] #[4]) (by kernel_rfl) rfl rfl (hov _ hw) ?_))
      all_goals first | (exfalso; omega) | skip
      have hsz : ((n - i) + 1) * 3 ≤ ((l.drop i).flatMap encBk ++ rest).length := by rw [List.length_append, e2]; omega
      have e4 : (l.drop i).flatMap encBk ++ rest = ((l.drop i).flatMap encBk ++ rest).take 3 ++ (((l.drop i).flatMap encBk ++ rest).drop 3).take ((n - i) * 3) ++ ((l.drop i).flatMap encBk ++ rest).drop (3 + (n - i) * 3) := by
        rw [List.append_assoc, ← List.drop_drop, List.take_append_drop, List.take_append_drop]
      generalize hDD : ((l.drop i).flatMap encBk ++ rest).take 3 = D1 at e4
      generalize hDE : (((l.drop i).flatMap encBk ++ rest).drop 3).take ((n - i) * 3) = D2 at e4
      generalize hDF : ((l.drop i).flatMap encBk ++ rest).drop (3 + (n - i) * 3) = D3 at e4
      have f1 : D1.length = 3 := by rw [← hDD]; simp only [List.length_take]; omega
      have f2 : D2.length = (n - i) * 3 := by rw [← hDE]; simp only [List.length_take, List.length_drop]; omega
      have f3 : D3.length + 3 = rest.length := by rw [← hDF]; simp only [List.length_drop, List.length_append, e2]; omega
      rw [e4] at h2
      refine CW.any 8 mixed (rb_tail (by kernel_rfl)) rfl fun w1 hw1 hRB => ?_
      replace hw := Ext.trans hw hw1; replace hO := hO.ext hw1; replace hB := hB.ext hw1; replace h2 := h2.ext hw1; clear hw1
      refine SA.take 0 hRB rfl (by kernel_rfl) (by kernel_rfl) rfl ?_
      repeat (refine SW.pure rfl rfl ?_)
      refine SW.tknil ?_
      refine SA.take 1 hRB rfl (by kernel_rfl) (by kernel_rfl) rfl ?_
      repeat (refine SW.pure rfl rfl ?_)
      refine SW.tknil ?_
      refine SA.take 2 hRB rfl (by kernel_rfl) (by kernel_rfl) rfl ?_
      repeat (refine SW.pure rfl rfl ?_)
      refine SW.tknil ?_
      refine SA.take 3 hRB rfl (by kernel_rfl) (by kernel_rfl) rfl ?_
      repeat ((show SW _ _ _ _ (⟨_, Op.binOp _ _ _ _ _, _, _, _, none⟩ :: _) _ _; refine SW.st (st_add rfl rfl (by omega) (by omega)) rfl ?_))
      refine SW.tknil ?_
      refine SA.take 4 hRB rfl (by kernel_rfl) (by kernel_rfl) rfl ?_
      repeat ((refine SW.st (st_sliceLo (k := i + 1) rfl rfl (by omega) (by omega)) rfl ?_))
      refine SW.tknil ?_
      refine SA.take 5 hRB rfl (by kernel_rfl) (by kernel_rfl) rfl ?_
      repeat (refine SW.pure rfl rfl ?_)
      refine SW.tknil ?_
      refine SA.take 6 hRB rfl (by kernel_rfl) (by kernel_rfl) rfl ?_
      repeat (refine SW.pure rfl rfl ?_)
      refine SW.tknil ?_
      refine SA.take 7 hRB rfl (by kernel_rfl) (by kernel_rfl) rfl ?_
      repeat ((refine SW.st (st_sliceLo (k := i) rfl rfl (by omega) (by omega)) rfl ?_))
      refine SW.tknil ?_
      refine SA.done (by kernel_rfl) ?_
      refine SW.copy (k := n - i) ((i + 1) * 3) ((l.drop i).flatMap encBk) h2 rfl rfl rfl (by omega) e2 (by simp only [List.length_append, e1, e2, f1, f2]; omega) (fun h0 => ⟨by rw [if_neg (by omega)]; simp [addr_of], (⟨g, 0, none⟩ : Addr).add (i * 3), by rw [if_neg (by omega)]; rfl, fun j v hv => cells_flatMap (by omega) (hsrc.ext hw) j v hv⟩) (hone _) fun w3 h2' hg3 => ?_
      have g1 := lay_mid ((l.take i).flatMap encBk ++ D1) D2 D3 ((l.drop i).flatMap encBk) (by rw [e2, f2]) (o := (i + 1) * 3) (by rw [List.length_append, e1, f1]; omega)
      have g0 : (l.take i).flatMap encBk ++ (D1 ++ D2 ++ D3) = (l.take i).flatMap encBk ++ D1 ++ D2 ++ D3 := by simp only [List.append_assoc]
      rw [g0, g1] at h2'
      have hG1 := grown_trans (hw.gr (ownB (some ⟨g, 0, none⟩) c)) hg3 (.inl h6.symm)
      have hB3 := hB.grown hg3 (by simpa using fun e => hgb e.symm)
      repeat' (first | (show CW _ _ _ _ _ _; first | refine CW.seq ?_ | refine CW.region ?_) | (show Post _ _ _ _ _; first | refine Post.seq ?_ | refine Post.np ?_) | refine SW.nil ?_ | refine SW.pure rfl rfl ?_ | (refine SW.st (st_sliceLo (k := i) rfl rfl (by omega) (by omega)) rfl ?_))
      refine SW.copy (k := 1) (i * 3) (encBk x) h2' rfl rfl rfl (by omega) hxl (by simp only [List.length_append, e1, e2, f1, hxl]; omega) (fun h0 => ⟨by rw [if_neg (by omega)]; simp [addr_of], ⟨b, 0, none⟩, rfl, fun j v hv => hB3.cell hv⟩) (Enc.one (enc := encBk) x) fun w4 h2'' hg4 => ?_
      have g2 := lay_mid ((l.take i).flatMap encBk) D1 ((l.drop i).flatMap encBk ++ D3) (encBk x) (by rw [hxl, f1]) (o := i * 3) e1.symm
      have g3 : (l.take i).flatMap encBk ++ D1 ++ (l.drop i).flatMap encBk ++ D3 = (l.take i).flatMap encBk ++ D1 ++ ((l.drop i).flatMap encBk ++ D3) := by simp only [List.append_assoc]
      have g4 : (l.take i).flatMap encBk ++ encBk x ++ ((l.drop i).flatMap encBk ++ D3) = (insAt l i x).flatMap encBk ++ D3 := by unfold insAt; simp only [List.flatMap_append, List.flatMap_cons, List.flatMap_nil, List.append_nil, List.append_assoc]
      rw [g3, g2, g4] at h2''
      have hO' := Own.closed (n := n + 1) (c := c) (l := insAt l i x) (by unfold insAt; simp; omega) h2'' (by omega) hroom (by omega) h5 h1
      have hG2 := grown_trans hG1 hg4 (.inl h6.symm)
      repeat' (first | (show CW _ _ _ _ _ _; first | refine CW.seq ?_ | refine CW.region ?_ | refine CW.ret ?_) | (show Post _ _ _ _ _; first | refine Post.seq ?_ | refine Post.seq_ret ?_) | refine SW.nil ?_ | refine SW.pure rfl rfl ?_)
      exact Post.ret1 rfl rfl ⟨_, rfl, _, _, rfl, hO', hG2⟩
    · have hcn : c = n := by omega
      have hsrc := hO.sl.drop i c (by omega) (by omega)
      have hpre := hO.sl.pre (i := i) (by omega)
      repeat' (first | (show CW _ _ _ _ _ _; first | refine CW.seq ?_ | refine CW.region ?_ | refine CW.condd_t rfl (by omega) ?_ | refine CW.condd_f rfl (by omega) ?_ | refine CW.skip ?_) | (show Post _ _ _ _ _; refine Post.seq ?_) | refine SW.nil ?_ | refine SW.pure rfl rfl ?_ | (show SW _ _ _ _ (⟨_, Op.binOp _ _ _ _ _, _, _, _, none⟩ :: _) _ _; first | refine SW.st (st_add rfl rfl (by omega) (by omega)) rfl ?_ | refine SW.st (st_sub rfl rfl (by omega) (by omega)) rfl ?_) | (show SW _ _ _ _ (⟨_, Op.call ⟨.builtin .len, _, _⟩, _, _, _, none⟩ :: _) _ _; refine SW.st (st_len rfl) rfl ?_) | (show SW _ _ _ _ (⟨_, Op.call ⟨.builtin .cap, _, _⟩, _, _, _, none⟩ :: _) _ _; refine SW.st (st_cap rfl) rfl ?_) | (refine SW.st (st_sliceLo (k := i) rfl rfl (by omega) (by omega)) rfl ?_) | (refine SW.st (st_sliceHi (k := i) rfl rfl (by omega)) rfl ?_))
      all_goals first | (exfalso; omega) | skip
      refine SW.appendZ (k := n + 1 - i) hpre Tryd.underlying3 rfl rfl (by omega) rfl (by omega) (by omega) (by omega) (by omega) fun g rest c2 w2 hw2 hg2 h2 h3 h4 h5 => ?_
      have e1 : ((l.take i).flatMap encBk).length = i * 3 := by rw [hfl]; simp; omega
      have e2 : ((l.drop i).flatMap encBk).length = (n - i) * 3 := by rw [hfl]; simp [hll]
      have hsz : ((n - i) + 1) * 3 ≤ rest.length := by omega
      have e4 : rest = rest.take 3 ++ (rest.drop 3).take ((n - i) * 3) ++ rest.drop (3 + (n - i) * 3) := by
        rw [List.append_assoc, ← List.drop_drop, List.take_append_drop, List.take_append_drop]
      generalize hDD : rest.take 3 = D1 at e4
      generalize hDE : (rest.drop 3).take ((n - i) * 3) = D2 at e4
      generalize hDF : rest.drop (3 + (n - i) * 3) = D3 at e4
      have f1 : D1.length = 3 := by rw [← hDD]; simp only [List.length_take]; omega
      have f2 : D2.length = (n - i) * 3 := by rw [← hDE]; simp only [List.length_take, List.length_drop]; omega
      have f3 : D3.length + ((n - i) + 1) * 3 = rest.length := by rw [← hDF]; simp only [List.length_drop]; omega
      rw [e4] at h2
      have hrow : ownB A c ≠ some g := fun e => by have := hO.lt_size _ e; omega
      have hgb : b ≠ g := by have := hB.lt; omega
      replace hsrc := hsrc.ext hw2
      replace hB := hB.ext hw2
      replace hw := Ext.trans hw hw2
      repeat' (first | (show CW _ _ _ _ _ _; first | refine CW.seq ?_ | refine CW.region ?_) | (show Post _ _ _ _ _; refine Post.seq ?_) | refine SW.nil ?_ | refine SW.pure rfl rfl ?_ | (refine SW.st (st_sliceLo (k := i) rfl rfl (by omega) (by omega)) rfl ?_))
      refine SW.copy (k := 1) (i * 3) (encBk x) h2 rfl rfl rfl (by omega) hxl (by simp only [List.length_append, e1, f1, f2, hxl]; omega) (fun h0 => ⟨by rw [if_neg (by omega)]; simp [addr_of], ⟨b, 0, none⟩, rfl, fun j v hv => hB.cell hv⟩) (Enc.one (enc := encBk) x) fun w3 h2' hg3 => ?_
      have g2 := lay_mid ((l.take i).flatMap encBk) D1 (D2 ++ D3) (encBk x) (by rw [hxl, f1]) (o := i * 3) e1.symm
      have g3 : (l.take i).flatMap encBk ++ (D1 ++ D2 ++ D3) = (l.take i).flatMap encBk ++ D1 ++ (D2 ++ D3) := by simp only [List.append_assoc]
      rw [g3, g2] at h2'
      have hX3 : Ext w w3 := hw.own hg2 hg3
      have hsrc3 : Sl w3 3 encBk (if c = i then A else A.map (·.add (i * 3))) (n - i) (l.drop i) := (hO.sl.drop i c (by omega) (by omega)).ext hX3
      replace hw := hX3
      repeat' (first | (show CW _ _ _ _ _ _; refine CW.seq ?_) | (show Post _ _ _ _ _; refine Post.seq ?_) | refine SW.nil ?_)
      refine CW.any 8 mixed (rb_tail (by kernel_rfl)) rfl fun w1 hw1 hRB => ?_
      replace hw := Ext.trans hw hw1; replace h2' := h2'.ext hw1; replace hsrc3 := hsrc3.ext hw1; clear hw1
      refine SA.take 0 hRB rfl (by kernel_rfl) (by kernel_rfl) rfl ?_
      repeat (refine SW.pure rfl rfl ?_)
      refine SW.tknil ?_
      refine SA.take 1 hRB rfl (by kernel_rfl) (by kernel_rfl) rfl ?_
      repeat (refine SW.pure rfl rfl ?_)
      refine SW.tknil ?_
      refine SA.take 2 hRB rfl (by kernel_rfl) (by kernel_rfl) rfl ?_
      repeat (refine SW.pure rfl rfl ?_)
      refine SW.tknil ?_
      refine SA.take 3 hRB rfl (by kernel_rfl) (by kernel_rfl) rfl ?_
      repeat ((show SW _ _ _ _ (⟨_, Op.binOp _ _ _ _ _, _, _, _, none⟩ :: _) _ _; refine SW.st (st_add rfl rfl (by omega) (by omega)) rfl ?_))
      refine SW.tknil ?_
      refine SA.take 4 hRB rfl (by kernel_rfl) (by kernel_rfl) rfl ?_
      repeat ((refine SW.st (st_sliceLo (k := i + 1) rfl rfl (by omega) (by omega)) rfl ?_))
      refine SW.tknil ?_
      refine SA.take 5 hRB rfl (by kernel_rfl) (by kernel_rfl) rfl ?_
      repeat (refine SW.pure rfl rfl ?_)
      refine SW.tknil ?_
      refine SA.take 6 hRB rfl (by kernel_rfl) (by kernel_rfl) rfl ?_
      repeat (refine SW.pure rfl rfl ?_)
      refine SW.tknil ?_
      refine SA.take 7 hRB rfl (by kernel_rfl) (by kernel_rfl) rfl ?_
      repeat ((refine SW.st (st_sliceLo (k := i) rfl rfl (by omega) (by omega)) rfl ?_))
      refine SW.tknil ?_
      refine SA.done (by kernel_rfl) ?_
      refine SW.copy (k := n - i) ((i + 1) * 3) ((l.drop i).flatMap encBk) h2' rfl rfl rfl (by omega) e2 (by simp only [List.length_append, e1, e2, f2, hxl]; omega) (fun h0 => ⟨by rw [if_neg (by omega)]; simp [addr_of], (if c = i then A else A.map (·.add (i * 3))).getD default, ?_, fun j v hv => cells_flatMap (by omega) hsrc3 j v hv⟩) (hone _) fun w4 h2'' hg4 => ?_
      · obtain ⟨a, ha⟩ := Option.isSome_iff_exists.1 (hsrc3.base h0)
        rw [ha]; rfl
      · have g4 := lay_mid ((l.take i).flatMap encBk ++ encBk x) D2 D3 ((l.drop i).flatMap encBk) (by rw [e2, f2]) (o := (i + 1) * 3) (by rw [List.length_append, e1, hxl]; omega)
        have g5 : (l.take i).flatMap encBk ++ encBk x ++ (D2 ++ D3) = (l.take i).flatMap encBk ++ encBk x ++ D2 ++ D3 := by simp only [List.append_assoc]
        have g6 : (l.take i).flatMap encBk ++ encBk x ++ (l.drop i).flatMap encBk ++ D3 = (insAt l i x).flatMap encBk ++ D3 := by unfold insAt; simp only [List.flatMap_append, List.flatMap_cons, List.flatMap_nil, List.append_nil, List.append_assoc]
        rw [g5, g4, g6] at h2''
        have hO' := Own.closed (n := n + 1) (c := c2) (lo := lo) (l := insAt l i x) (by unfold insAt; simp; omega) h2'' (by omega) (by omega) (by omega) h5 (by omega)
        have hw4 : Ext w w4 := hw.own hg2 hg4
        have e9 : i + (n + 1 - i) = n + 1 := by omega
        repeat' (first | (show CW _ _ _ _ _ _; first | refine CW.seq ?_ | refine CW.region ?_ | refine CW.ret ?_) | (show Post _ _ _ _ _; first | refine Post.seq ?_ | refine Post.seq_ret ?_ | refine Post.np ?_) | refine SW.nil ?_ | refine SW.pure rfl rfl ?_)
        rw [e9]
        exact Post.ret1 rfl rfl ⟨_, rfl, _, _, rfl, hO', hw4.gr _⟩

end Go.Proofs.YtfommgdbahemfaaDoor
