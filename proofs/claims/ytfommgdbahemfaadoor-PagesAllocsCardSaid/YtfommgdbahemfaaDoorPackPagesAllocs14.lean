/-
  Texts of the claim PagesAllocs, part 14: what its theorem leans on.
-/
import Derived.Test.YtfommgdbahemfaaDoorPackPagesAllocs6
import Derived.Test.YtfommgdbahemfaaDoorPackPagesAllocs13
import Derived.Test.YtfommgdbahemfaaDoorPackPagesAllocs8
import Derived.Test.YtfommgdbahemfaaDoorPackPagesAllocs10
import Derived.Test.YtfommgdbahemfaaDoorPackPagesAllocs12
import Derived.Test.YtfommgdbahemfaaDoorPackPagesAllocs9
set_option linter.unusedVariables false
namespace Go.Proofs.YtfommgdbahemfaaDoor
open Go.RowKit
set_option maxHeartbeats 4000000 in
theorem InsertLRow_ans (A : Option Addr) (n c lo : Nat) (l : List LRow) (w : World) (hO : Own w lo 84 4 encL A n c l) (i : Nat) (hi : i ≤ n) (x : LRow) (b : Nat) (hB : Blk w b 84 (encL x)) (hne : ownB A c ≠ some b) (hn : (n + 1) * 48 ≤ 140737488355328) (hlo : lo ≤ w.heap.size) :
  AnsX Tryd.prog 137 [.slice A n c, .int .i64 (i : Int), .slice (some ⟨b, 0, none⟩) 1 1] w fun v w' => ∃ A' c', v = .slice A' (n + 1) c' ∧ Own w' lo 84 4 encL A' (n + 1) c' (insAt l i x) ∧ w.grownBy w' (ownB A c) ∧ ∀ k, ownB A' c' = some k → ownB A c = some k ∨ w.heap.size ≤ k := by
 refine ansx_of Tryd.func137 rfl Tryd.ntmps137 rfl ?_
 have hle := hO.le
 have hll := hO.len
 have hA := hO.sl.base
 have hw := Ext.refl w
 have hx1 : Sl w 4 encL (some ⟨b, 0, none⟩) 1 [x] := Blk.sl1 hB
 have hxl : (encL x).length = 4 := rfl
 have hfl : ∀ q : List LRow, (q.flatMap encL).length = q.length * 4 := fun q => length_flatMap_enc q
 have hone : ∀ (q : List LRow) (v : Value), v ∈ q.flatMap encL → v.oneCell' = true := fun q v hv => by
  obtain ⟨u, _, hu⟩ := List.mem_flatMap.1 hv
  exact Enc.one (enc := encL) u v hu
 by_cases hin : i = n
 ·subst hin
  repeat' (first | (show CW _ _ _ _ _ _; first | refine CW.seq ?_ | refine CW.region ?_ | refine CW.condd_t rfl (by omega) ?_ | refine CW.condd_f rfl (by omega) ?_ | refine CW.skip ?_) | (show Post _ _ _ _ _; refine Post.seq ?_) | refine SW.nil ?_ | refine SW.pure rfl rfl ?_ | (show SW _ _ _ _ (⟨_, Op.call ⟨.builtin .len, _, _⟩, _, _, _, none⟩ :: _) _ _; refine SW.st (st_len rfl) rfl ?_) | (refine SW.st (st_sliceLo (k := i) rfl rfl (by omega) (by omega)) rfl ?_))
  all_goals first | (exfalso; omega) | skip
  refine SW.append2 hO hx1 hlo (by omega) rfl rfl rfl (by omega) (by omega) fun A2 c2 w2 hcase => ?_
  have hres : Own w2 lo 84 4 encL A2 (i + 1) c2 (l ++ [x]) ∧ w.grownBy w2 (ownB A c) ∧ ∀ k, ownB A2 c2 = some k → ownB A c = some k ∨ w.heap.size ≤ k := by
   rcases hcase with ⟨rfl, rfl, h1, h2⟩ | ⟨h1, h2⟩
   ·exact ⟨h1, h2, fun k e => .inl e⟩
   ·exact ⟨h1.low hlo, (ext_grown (Ext.refl w) h2 (Nat.le_refl _) (fun k e => by cases e)).gr _, fun k e => .inr (h1.row_ge k e)⟩
  obtain ⟨hO2, hg, hpos⟩ := hres
  repeat' (first | (show CW _ _ _ _ _ _; refine CW.ret ?_) | (show Post _ _ _ _ _; first | refine Post.seq ?_ | refine Post.seq_ret ?_) | refine SW.nil ?_ | refine SW.pure rfl rfl ?_)
  refine Post.ret1 rfl rfl ⟨_, rfl, A2, c2, rfl, ?_, hg, hpos⟩
  have e : insAt l i x = l ++ [x] := by unfold insAt; rw [List.take_of_length_le (by omega), List.drop_eq_nil_of_le (by omega)]; simp
  rw [e]; exact hO2
 ·by_cases hroom : n + 1 ≤ c
  ·obtain ⟨g, rest, rfl, h1, h2, h3, h4, h5, h6⟩ := hO.opened (by omega)
   have hgb : g ≠ b := fun e => hne (by rw [h6, e])
   have es : l.flatMap encL ++ rest = (l.take i).flatMap encL ++ ((l.drop i).flatMap encL ++ rest) := by rw [← List.append_assoc, ← List.flatMap_append, List.take_append_drop]
   have e1 : ((l.take i).flatMap encL).length = i * 4 := by rw [hfl]; simp; omega
   have e2 : ((l.drop i).flatMap encL).length = (n - i) * 4 := by rw [hfl]; simp [hll]
   have hsrc := hO.sl.drop i c (by omega) (by omega)
   rw [if_neg (by omega)] at hsrc
   rw [es] at h2
   have hov : ∀ w', Ext w w' → (Extern.SlicesOverlaps.overlaps #[33, 33] #[4] #[.slice (some ⟨b, 0, none⟩) 1 1, .slice (if c = i + 1 then (some ⟨g, 0, none⟩) else (some (⟨g, 0, none⟩ : Addr)).map (·.add ((i + 1) * 4))) (n + 1 - (i + 1)) (c - (i + 1))]).run Tryd.prog w' = .ok (.bool false) w' := fun w' hx => by
    rw [if_neg (by omega), Option.map_some, addr_of]
    have b1 := hB.ext hx
    have b2 := h2.ext hx
    unfold Blk at b1 b2
    exact Lib.run_overlaps_apart w' 33 4 84 (SliceTy.und (t := 33)) 4 (fun w0 => run_sizeOf (SliceTy.size (t := 33)) w0) ⟨b, 0, none⟩ ⟨g, (i + 1) * 4, none⟩ 1 1 _ _ (fun e => hgb e.symm) 84 84 (encL x).toArray.size ((l.take i).flatMap encL ++ ((l.drop i).flatMap encL ++ rest)).toArray.size
     (by simp only [World.shape?, b1]) (by simp only [World.shape?, b2]) (by simp [e1, e2]; omega) (by simp [World.frozen?, b1]) (by simp [World.frozen?, b1])
   repeat' (first | (show CW _ _ _ _ _ _; first | refine CW.seq ?_ | refine CW.region ?_ | refine CW.condd_f rfl (by omega) ?_ | refine CW.condt rfl ?_ | refine CW.skip ?_) | (show Post _ _ _ _ _; refine Post.seq ?_) | refine SW.nil ?_ | refine SW.pure rfl rfl ?_ | (show SW _ _ _ _ (⟨_, Op.binOp _ _ _ _ _, _, _, _, none⟩ :: _) _ _; refine SW.st (st_add rfl rfl (by omega) (by omega)) rfl ?_) | (show SW _ _ _ _ (⟨_, Op.call ⟨.builtin .len, _, _⟩, _, _, _, none⟩ :: _) _ _; refine SW.st (st_len rfl) rfl ?_) | (show SW _ _ _ _ (⟨_, Op.call ⟨.builtin .cap, _, _⟩, _, _, _, none⟩ :: _) _ _; refine SW.st (st_cap rfl) rfl ?_) | (refine SW.st (st_sliceLo (k := i) rfl rfl (by omega) (by omega)) rfl ?_) | (refine SW.st (st_sliceHi (k := n + 1) rfl rfl (by omega)) rfl ?_) | (refine SW.st (st_sliceLo (k := i + 1) rfl rfl (by omega) (by omega)) rfl ?_) | (refine SW.entry Tryd.func142 (by kernel_rfl) (by kernel_rfl) (by kernel_rfl) (e := Extern.SlicesOverlaps.overlaps #[33, 33] #[4]) (by kernel_rfl) rfl rfl (hov _ hw) ?_))
   all_goals first | (exfalso; omega) | skip
   have hsz : ((n - i) + 1) * 4 ≤ ((l.drop i).flatMap encL ++ rest).length := by rw [List.length_append, e2]; omega
   have e4 : (l.drop i).flatMap encL ++ rest = ((l.drop i).flatMap encL ++ rest).take 4 ++ (((l.drop i).flatMap encL ++ rest).drop 4).take ((n - i) * 4) ++ ((l.drop i).flatMap encL ++ rest).drop (4 + (n - i) * 4) := by
    rw [List.append_assoc, ← List.drop_drop, List.take_append_drop, List.take_append_drop]
   generalize hDD : ((l.drop i).flatMap encL ++ rest).take 4 = D1 at e4
   generalize hDE : (((l.drop i).flatMap encL ++ rest).drop 4).take ((n - i) * 4) = D2 at e4
   generalize hDF : ((l.drop i).flatMap encL ++ rest).drop (4 + (n - i) * 4) = D3 at e4
   have f1 : D1.length = 4 := by rw [← hDD]; simp only [List.length_take]; omega
   have f2 : D2.length = (n - i) * 4 := by rw [← hDE]; simp only [List.length_take, List.length_drop]; omega
   have f3 : D3.length + 4 = rest.length := by rw [← hDF]; simp only [List.length_drop, List.length_append, e2]; omega
   rw [e4] at h2
   refine CW.any 8 mixed (rb_tail (by kernel_rfl)) rfl fun w1 hw1 hRB => ?_
   replace hw := Ext.trans hw hw1; replace hO := hO.ext hw1; replace hB := hB.ext hw1; replace h2 := h2.ext hw1; clear hw1
   refine SA.take 0 hRB rfl (by kernel_rfl) (by kernel_rfl) rfl ?_
   repeat (refine SW.pure rfl rfl ?_)
   refine SW.tknil ?_
   refine SA.take 1 hRB rfl (by kernel_rfl) (by kernel_rfl) rfl ?_
   repeat (refine SW.pure rfl rfl ?_)
   refine SW.tknil ?_
   refine SA.take 2 hRB rfl (by kernel_rfl) (by kernel_rfl) rfl ?_
   repeat (refine SW.pure rfl rfl ?_)
   refine SW.tknil ?_
   refine SA.take 3 hRB rfl (by kernel_rfl) (by kernel_rfl) rfl ?_
   repeat ((show SW _ _ _ _ (⟨_, Op.binOp _ _ _ _ _, _, _, _, none⟩ :: _) _ _; refine SW.st (st_add rfl rfl (by omega) (by omega)) rfl ?_))
   refine SW.tknil ?_
   refine SA.take 4 hRB rfl (by kernel_rfl) (by kernel_rfl) rfl ?_
   repeat ((refine SW.st (st_sliceLo (k := i + 1) rfl rfl (by omega) (by omega)) rfl ?_))
   refine SW.tknil ?_
   refine SA.take 5 hRB rfl (by kernel_rfl) (by kernel_rfl) rfl ?_
   repeat (refine SW.pure rfl rfl ?_)
   refine SW.tknil ?_
   refine SA.take 6 hRB rfl (by kernel_rfl) (by kernel_rfl) rfl ?_
   repeat (refine SW.pure rfl rfl ?_)
   refine SW.tknil ?_
   refine SA.take 7 hRB rfl (by kernel_rfl) (by kernel_rfl) rfl ?_
   repeat ((refine SW.st (st_sliceLo (k := i) rfl rfl (by omega) (by omega)) rfl ?_))
   refine SW.tknil ?_
   refine SA.done (by kernel_rfl) ?_
   refine SW.copy (k := n - i) ((i + 1) * 4) ((l.drop i).flatMap encL) h2 rfl rfl rfl (by omega) e2 (by simp only [List.length_append, e1, e2, f1, f2]; omega) (fun h0 => ⟨by rw [if_neg (by omega)]; simp [addr_of], (⟨g, 0, none⟩ : Addr).add (i * 4), by rw [if_neg (by omega)]; rfl, fun j v hv => cells_flatMap (by omega) (hsrc.ext hw) j v hv⟩) (hone _) fun w3 h2' hg3 => ?_
   have g1 := lay_mid ((l.take i).flatMap encL ++ D1) D2 D3 ((l.drop i).flatMap encL) (by rw [e2, f2]) (o := (i + 1) * 4) (by rw [List.length_append, e1, f1]; omega)
   have g0 : (l.take i).flatMap encL ++ (D1 ++ D2 ++ D3) = (l.take i).flatMap encL ++ D1 ++ D2 ++ D3 := by simp only [List.append_assoc]
   rw [g0, g1] at h2'
   have hG1 := grown_trans (hw.gr (ownB (some ⟨g, 0, none⟩) c)) hg3 (.inl h6.symm)
   have hB3 := hB.grown hg3 (by simpa using fun e => hgb e.symm)
   repeat' (first | (show CW _ _ _ _ _ _; first | refine CW.seq ?_ | refine CW.region ?_) | (show Post _ _ _ _ _; first | refine Post.seq ?_ | refine Post.np ?_) | refine SW.nil ?_ | refine SW.pure rfl rfl ?_ | (refine SW.st (st_sliceLo (k := i) rfl rfl (by omega) (by omega)) rfl ?_))
   refine SW.copy (k := 1) (i * 4) (encL x) h2' rfl rfl rfl (by omega) hxl (by simp only [List.length_append, e1, e2, f1, hxl]; omega) (fun h0 => ⟨by rw [if_neg (by omega)]; simp [addr_of], ⟨b, 0, none⟩, rfl, fun j v hv => hB3.cell hv⟩) (Enc.one (enc := encL) x) fun w4 h2'' hg4 => ?_
   have g2 := lay_mid ((l.take i).flatMap encL) D1 ((l.drop i).flatMap encL ++ D3) (encL x) (by rw [hxl, f1]) (o := i * 4) e1.symm
   have g3 : (l.take i).flatMap encL ++ D1 ++ (l.drop i).flatMap encL ++ D3 = (l.take i).flatMap encL ++ D1 ++ ((l.drop i).flatMap encL ++ D3) := by simp only [List.append_assoc]
   have g4 : (l.take i).flatMap encL ++ encL x ++ ((l.drop i).flatMap encL ++ D3) = (insAt l i x).flatMap encL ++ D3 := by unfold insAt; simp only [List.flatMap_append, List.flatMap_cons, List.flatMap_nil, List.append_nil, List.append_assoc]
   rw [g3, g2, g4] at h2''
   have hO' := Own.closed (n := n + 1) (c := c) (l := insAt l i x) (by unfold insAt; simp; omega) h2'' (by omega) hroom (by omega) h5 h1
   have hG2 := grown_trans hG1 hg4 (.inl h6.symm)
   repeat' (first | (show CW _ _ _ _ _ _; first | refine CW.seq ?_ | refine CW.region ?_ | refine CW.ret ?_) | (show Post _ _ _ _ _; first | refine Post.seq ?_ | refine Post.seq_ret ?_) | refine SW.nil ?_ | refine SW.pure rfl rfl ?_)
   exact Post.ret1 rfl rfl ⟨_, rfl, _, _, rfl, hO', hG2, fun k e => .inl e⟩
  ·have hcn : c = n := by omega
   have hsrc := hO.sl.drop i c (by omega) (by omega)
   have hpre := hO.sl.pre (i := i) (by omega)
   repeat' (first | (show CW _ _ _ _ _ _; first | refine CW.seq ?_ | refine CW.region ?_ | refine CW.condd_t rfl (by omega) ?_ | refine CW.condd_f rfl (by omega) ?_ | refine CW.skip ?_) | (show Post _ _ _ _ _; refine Post.seq ?_) | refine SW.nil ?_ | refine SW.pure rfl rfl ?_ | (show SW _ _ _ _ (⟨_, Op.binOp _ _ _ _ _, _, _, _, none⟩ :: _) _ _; first | refine SW.st (st_add rfl rfl (by omega) (by omega)) rfl ?_ | refine SW.st (st_sub rfl rfl (by omega) (by omega)) rfl ?_) | (show SW _ _ _ _ (⟨_, Op.call ⟨.builtin .len, _, _⟩, _, _, _, none⟩ :: _) _ _; refine SW.st (st_len rfl) rfl ?_) | (show SW _ _ _ _ (⟨_, Op.call ⟨.builtin .cap, _, _⟩, _, _, _, none⟩ :: _) _ _; refine SW.st (st_cap rfl) rfl ?_) | (refine SW.st (st_sliceLo (k := i) rfl rfl (by omega) (by omega)) rfl ?_) | (refine SW.st (st_sliceHi (k := i) rfl rfl (by omega)) rfl ?_))
   all_goals first | (exfalso; omega) | skip
   refine SW.appendZ (k := n + 1 - i) hpre Tryd.underlying3 rfl rfl (by omega) rfl (by omega) (by omega) (by omega) (by omega) fun g rest c2 w2 hw2 hg2 h2 h3 h4 h5 => ?_
   have e1 : ((l.take i).flatMap encL).length = i * 4 := by rw [hfl]; simp; omega
   have e2 : ((l.drop i).flatMap encL).length = (n - i) * 4 := by rw [hfl]; simp [hll]
   have hsz : ((n - i) + 1) * 4 ≤ rest.length := by omega
   have e4 : rest = rest.take 4 ++ (rest.drop 4).take ((n - i) * 4) ++ rest.drop (4 + (n - i) * 4) := by
    rw [List.append_assoc, ← List.drop_drop, List.take_append_drop, List.take_append_drop]
   generalize hDD : rest.take 4 = D1 at e4
   generalize hDE : (rest.drop 4).take ((n - i) * 4) = D2 at e4
   generalize hDF : rest.drop (4 + (n - i) * 4) = D3 at e4
   have f1 : D1.length = 4 := by rw [← hDD]; simp only [List.length_take]; omega
   have f2 : D2.length = (n - i) * 4 := by rw [← hDE]; simp only [List.length_take, List.length_drop]; omega
   have f3 : D3.length + ((n - i) + 1) * 4 = rest.length := by rw [← hDF]; simp only [List.length_drop]; omega
   rw [e4] at h2
   have hrow : ownB A c ≠ some g := fun e => by have := hO.lt_size _ e; omega
   have hgb : b ≠ g := by have := hB.lt; omega
   replace hsrc := hsrc.ext hw2
   replace hB := hB.ext hw2
   replace hw := Ext.trans hw hw2
   repeat' (first | (show CW _ _ _ _ _ _; first | refine CW.seq ?_ | refine CW.region ?_) | (show Post _ _ _ _ _; refine Post.seq ?_) | refine SW.nil ?_ | refine SW.pure rfl rfl ?_ | (refine SW.st (st_sliceLo (k := i) rfl rfl (by omega) (by omega)) rfl ?_))
   refine SW.copy (k := 1) (i * 4) (encL x) h2 rfl rfl rfl (by omega) hxl (by simp only [List.length_append, e1, f1, f2, hxl]; omega) (fun h0 => ⟨by rw [if_neg (by omega)]; simp [addr_of], ⟨b, 0, none⟩, rfl, fun j v hv => hB.cell hv⟩) (Enc.one (enc := encL) x) fun w3 h2' hg3 => ?_
   have g2 := lay_mid ((l.take i).flatMap encL) D1 (D2 ++ D3) (encL x) (by rw [hxl, f1]) (o := i * 4) e1.symm
   have g3 : (l.take i).flatMap encL ++ (D1 ++ D2 ++ D3) = (l.take i).flatMap encL ++ D1 ++ (D2 ++ D3) := by simp only [List.append_assoc]
   rw [g3, g2] at h2'
   have hX3 : Ext w w3 := hw.own hg2 hg3
   have hsrc3 : Sl w3 4 encL (if c = i then A else A.map (·.add (i * 4))) (n - i) (l.drop i) := (hO.sl.drop i c (by omega) (by omega)).ext hX3
   replace hw := hX3
   repeat' (first | (show CW _ _ _ _ _ _; refine CW.seq ?_) | (show Post _ _ _ _ _; refine Post.seq ?_) | refine SW.nil ?_)
   refine CW.any 8 mixed (rb_tail (by kernel_rfl)) rfl fun w1 hw1 hRB => ?_
   replace hw := Ext.trans hw hw1; replace h2' := h2'.ext hw1; replace hsrc3 := hsrc3.ext hw1; clear hw1
   refine SA.take 0 hRB rfl (by kernel_rfl) (by kernel_rfl) rfl ?_
   repeat (refine SW.pure rfl rfl ?_)
   refine SW.tknil ?_
   refine SA.take 1 hRB rfl (by kernel_rfl) (by kernel_rfl) rfl ?_
   repeat (refine SW.pure rfl rfl ?_)
   refine SW.tknil ?_
   refine SA.take 2 hRB rfl (by kernel_rfl) (by kernel_rfl) rfl ?_
   repeat (refine SW.pure rfl rfl ?_)
   refine SW.tknil ?_
   refine SA.take 3 hRB rfl (by kernel_rfl) (by kernel_rfl) rfl ?_
   repeat ((show SW _ _ _ _ (⟨_, Op.binOp _ _ _ _ _, _, _, _, none⟩ :: _) _ _; refine SW.st (st_add rfl rfl (by omega) (by omega)) rfl ?_))
   refine SW.tknil ?_
   refine SA.take 4 hRB rfl (by kernel_rfl) (by kernel_rfl) rfl ?_
   repeat ((refine SW.st (st_sliceLo (k := i + 1) rfl rfl (by omega) (by omega)) rfl ?_))
   refine SW.tknil ?_
   refine SA.take 5 hRB rfl (by kernel_rfl) (by kernel_rfl) rfl ?_
   repeat (refine SW.pure rfl rfl ?_)
   refine SW.tknil ?_
   refine SA.take 6 hRB rfl (by kernel_rfl) (by kernel_rfl) rfl ?_
   repeat (refine SW.pure rfl rfl ?_)
   refine SW.tknil ?_
   refine SA.take 7 hRB rfl (by kernel_rfl) (by kernel_rfl) rfl ?_
   repeat ((refine SW.st (st_sliceLo (k := i) rfl rfl (by omega) (by omega)) rfl ?_))
   refine SW.tknil ?_
   refine SA.done (by kernel_rfl) ?_
   refine SW.copy (k := n - i) ((i + 1) * 4) ((l.drop i).flatMap encL) h2' rfl rfl rfl (by omega) e2 (by simp only [List.length_append, e1, e2, f2, hxl]; omega) (fun h0 => ⟨by rw [if_neg (by omega)]; simp [addr_of], (if c = i then A else A.map (·.add (i * 4))).getD default, ?_, fun j v hv => cells_flatMap (by omega) hsrc3 j v hv⟩) (hone _) fun w4 h2'' hg4 => ?_
   ·obtain ⟨a, ha⟩ := Option.isSome_iff_exists.1 (hsrc3.base h0)
    rw [ha]; rfl
   ·have g4 := lay_mid ((l.take i).flatMap encL ++ encL x) D2 D3 ((l.drop i).flatMap encL) (by rw [e2, f2]) (o := (i + 1) * 4) (by rw [List.length_append, e1, hxl]; omega)
    have g5 : (l.take i).flatMap encL ++ encL x ++ (D2 ++ D3) = (l.take i).flatMap encL ++ encL x ++ D2 ++ D3 := by simp only [List.append_assoc]
    have g6 : (l.take i).flatMap encL ++ encL x ++ (l.drop i).flatMap encL ++ D3 = (insAt l i x).flatMap encL ++ D3 := by unfold insAt; simp only [List.flatMap_append, List.flatMap_cons, List.flatMap_nil, List.append_nil, List.append_assoc]
    rw [g5, g4, g6] at h2''
    have hO' := Own.closed (n := n + 1) (c := c2) (lo := lo) (l := insAt l i x) (by unfold insAt; simp; omega) h2'' (by omega) (by omega) (by omega) h5 (by omega)
    have hw4 : Ext w w4 := hw.own hg2 hg4
    have e9 : i + (n + 1 - i) = n + 1 := by omega
    repeat' (first | (show CW _ _ _ _ _ _; first | refine CW.seq ?_ | refine CW.region ?_ | refine CW.ret ?_) | (show Post _ _ _ _ _; first | refine Post.seq ?_ | refine Post.seq_ret ?_ | refine Post.np ?_) | refine SW.nil ?_ | refine SW.pure rfl rfl ?_)
    rw [e9]
    exact Post.ret1 rfl rfl ⟨_, rfl, _, _, rfl, hO', hw4.gr _, fun k e => .inr (by
     have : k = g := by
      unfold ownB at e
      split at e
      ·cases e
      ·simpa using e.symm
     omega)⟩
end Go.Proofs.YtfommgdbahemfaaDoor
set_option linter.unusedVariables false
namespace Go.Proofs.YtfommgdbahemfaaDoor
open Go.RowKit
theorem SW.storeElem {α : Type} {P : Program} {n : Nat} {ops : Array Oper} {Q : Exit → Act → World → Prop} {rest : List Oper} {L : Env} {w : World} {T : TypeId} {pos : String} {af : Array Edge} {lo : Nat} {e : TypeId} {sz : Nat} {enc : α → List Value} [E : Enc enc sz] {A : Option Addr} {m c : Nat} {l : List α} {t : TypeId} [G : AggTy P t sz] {x y : Operand} (k : Nat) (x' : α)
  (hO : Own w lo e sz enc A m c l) (hx : opv L x = some (.pointer (some ((A.getD default).add (k * sz))))) (hy : opv L y = some (.agg (enc x').toArray)) (hk : k < m)
  (h : ∀ w', Own w' lo e sz enc A m c (l.set k x') → w.grownBy w' (ownB A c) → SW P n ops (.eff Q) rest L w') : SW P n ops (.eff Q) (⟨none, .store t x y, T, pos, af, none⟩ :: rest) L w :=
 ⟨fun a ha => by
  have hc : 0 < c := by have := hO.le; omega
  obtain ⟨g, r, rfl, hlo, hB, hr, hmc, hmx, how⟩ := hO.opened hc
  have hkl : k < l.length := by rw [hO.len]; exact hk
  have hks : (k + 1) * sz ≤ m * sz := Nat.mul_le_mul_right _ hk
  rw [Nat.add_mul, Nat.one_mul] at hks
  have hfl : (l.flatMap enc).length = m * sz := by rw [length_flatMap_enc, hO.len]
  have e0 : (((some (⟨g, 0, none⟩ : Addr)).getD default).add (k * sz)) = ⟨g, k * sz, none⟩ := addr_of g _
  rw [e0] at hx
  have el : l = l.take k ++ [l[k]] ++ l.drop (k + 1) := by simp
  have hX : ((l.take k).flatMap enc).length = k * sz := by rw [length_flatMap_enc, List.length_take, Nat.min_eq_left (by omega)]
  have e1 : l.flatMap enc ++ r = (l.take k).flatMap enc ++ enc l[k] ++ ((l.drop (k + 1)).flatMap enc ++ r) := by
   have e3 : l.flatMap enc = (l.take k ++ [l[k]] ++ l.drop (k + 1)).flatMap enc := by rw [← el]
   rw [e3, List.flatMap_append, List.flatMap_append]
   simp only [List.flatMap_cons, List.flatMap_nil, List.append_nil, List.append_assoc]
  have hst := run_storeCells_at P g (k * sz) e (enc x') 0 (l.flatMap enc ++ r).toArray w hB (by simp only [List.size_toArray, List.length_append, hfl, E.len]; omega) (E.one x')
  have e2 : ((l.flatMap enc ++ r).toArray.toList.take (k * sz + 0) ++ enc x' ++ (l.flatMap enc ++ r).toArray.toList.drop (k * sz + 0 + (enc x').length)) = (l.set k x').flatMap enc ++ r := by
   have := lay_mid ((l.take k).flatMap enc) (enc l[k]) ((l.drop (k + 1)).flatMap enc ++ r) (enc x') (by rw [E.len, E.len]) hX.symm
   rw [← e1] at this
   unfold lay at this
   simp only [Nat.add_zero]
   rw [this, List.set_eq_take_append_cons_drop, if_pos hkl]
   simp
  rw [e2] at hst
  simp only [swp, wpList, Region.wanted, if_true]
  refine .inl ?_
  unfold Oper.wp
  have hrun : (execOp a.eval ⟨none, .store t x y, T, pos, af, none⟩).run P w = .ok .skip (w.setRow g ((l.set k x').flatMap enc ++ r).toArray) := by
   simp [execOp, ha.eval hx, ha.eval hy, Instr.storeAt, Instr.sureAddr, storeVar, Value.cells, run_sizeOf G.size, E.len, hst]
  rw [hrun, Oper.upon_skip]
  obtain ⟨hB', hg'⟩ := grown_setRow (cs := (l.set k x').flatMap enc ++ r) hB
  refine (h _ (Own.closed (by rw [List.length_set]; exact hO.len) hB' hr hmc hc hmx hlo) ?_).out _ ha
  rw [how]
  exact hg'⟩
end Go.Proofs.YtfommgdbahemfaaDoor
set_option linter.unusedVariables false
set_option linter.unusedSimpArgs false
namespace Go.Proofs.YtfommgdbahemfaaDoor
open Go.RowKit
structure ZsOwn (w : World) (lo g c : Nat) (u0 u1 : ZRow) (s : Zone × Zone) : Prop where
 row : Own w lo 25 4 encZ (some ⟨g, 0, none⟩) 2 c [u0, u1]
 z0 : OwnZ w lo u0 s.1
 z1 : OwnZ w lo u1 s.2
 glo : lo ≤ g
 pos : 0 < c
section
variable {w w' : World} {lo lo' g c t : Nat} {u0 u1 : ZRow} {s : Zone × Zone}
theorem ZsOwn.ext (h : ZsOwn w lo g c u0 u1 s) (hx : Ext w w') : ZsOwn w' lo g c u0 u1 s := ⟨h.row.ext hx, h.z0.ext hx, h.z1.ext hx, h.glo, h.pos⟩
theorem ZsOwn.grT (h : ZsOwn w lo g c u0 u1 s) (hG : GrT w w' t) (hne : (Nat.beq t 25 || (Nat.beq t 3 || Nat.beq t 55)) = false) : ZsOwn w' lo g c u0 u1 s := by
 rw [Bool.or_eq_false_iff] at hne
 exact ⟨h.row.grT hG hne.1, h.z0.grT hG hne.2, h.z1.grT hG hne.2, h.glo, h.pos⟩
theorem ZsOwn.own (h : ZsOwn w lo g c u0 u1 s) : ownB (some (⟨g, 0, none⟩ : Addr)) c = some g := by simp [ownB, Nat.pos_iff_ne_zero.1 h.pos]
theorem ZsOwn.gr (h : ZsOwn w lo g c u0 u1 s) (hg : w.grownBy w' (some g)) : GrT w w' 25 := h.row.gr (by rw [h.own]; exact hg)
theorem may_fit {u : ZRow} {z : Zone} (h : OwnZ w lo u z) (hz : ZoneMay z) : (u.Free.n + 1) * 24 ≤ 140737488355328 ∧ u.Types.n * 8 ≤ 140737488355328 ∧ (0 ≤ u.From ∧ u.From ≤ 256) ∧ (0 ≤ u.To ∧ u.To ≤ 256) := by
 have e1 := h.free.sl.len
 have e2 := h.types.sl.len
 have e3 := h.from_
 have e4 := h.to_
 have hl := zone_len hz
 obtain ⟨o1, o2, o3, o4, o5⟩ := hz.ok
 refine ⟨Nat.le_trans (Nat.mul_le_mul_right 24 (show u.Free.n + 1 ≤ 258 by omega)) (by decide), by omega, by omega, by omega⟩
end
theorem zone2_ans (r : HRow) (u0 u1 : ZRow) (p : Int) (w : World) (hz : Sl w 4 encZ r.Zones.A r.Zones.n [u0, u1]) :
  Ans Tryd.prog 120 [.agg (encH r).toArray, .int .i64 p] w fun v _ => v = .int .i64 (if p < u0.To then 0 else 1) := by
 refine ans_of Tryd.func120 rfl Tryd.ntmps120 rfl ?_
 refine CW.seq (CW.region (SW.box rfl rfl fun b1 w1 hw hb1b hb1 => ?_))
 have hA := hz.base
 have hn : 2 = r.Zones.n := hz.len
 have h0 : 0 < r.Zones.n := by omega
 have f0 := hz.fld h0 (j := 1) (u := .int .i64 u0.To) rfl
 repeat' (first | (show CW _ _ _ _ _ _; first | refine CW.seq ?_ | refine CW.region ?_ | refine CW.condd rfl (fun h => ?_) (fun h => ?_) | refine CW.skip ?_ | refine CW.ret ?_) | (show Post _ _ _ _ _; first | refine Post.seq ?_ | refine Post.seq_ret ?_) | refine SW.nil ?_ | refine SW.pure rfl rfl ?_ | (show SW _ _ _ _ (⟨_, Op.fieldAddr _ _ _, _, _, _, none⟩ :: _) _ _; refine SW.st (st_field rfl) rfl ?_) | (show SW _ _ _ _ (⟨_, Op.indexAddr _ _ _, _, _, _, none⟩ :: _) _ _; refine SW.st (st_indexN rfl rfl (by assumption) (by omega)) rfl ?_) | (show SW _ _ _ _ (⟨_, Op.load _ _, _, _, _, none⟩ :: _) _ _; first | refine SW.st (st_load rfl (hb1.cell rfl)) rfl ?_ | refine SW.st (st_loadx hw rfl f0) rfl ?_))
 all_goals
  refine Post.ret1 rfl rfl ⟨_, rfl, hw, ?_⟩
  first | (rw [if_pos (by omega)]) | (rw [if_neg (by omega)])
theorem zoneAt2_ans (r : HRow) (u0 u1 : ZRow) (p : Int) (w : World) (hz : Sl w 4 encZ r.Zones.A r.Zones.n [u0, u1]) :
  Ans Tryd.prog 127 [.agg (encH r).toArray, .int .i64 p] w fun v _ => v = .int .i64 (if p < u1.From then 0 else 1) := by
 refine ans_of Tryd.func127 rfl Tryd.ntmps127 rfl ?_
 refine CW.seq (CW.region (SW.box rfl rfl fun b1 w1 hw hb1b hb1 => ?_))
 have hA := hz.base
 have hn : 2 = r.Zones.n := hz.len
 have h0 : 1 < r.Zones.n := by omega
 have f0 := hz.fld h0 (j := 0) (u := .int .i64 u1.From) rfl
 repeat' (first | (show CW _ _ _ _ _ _; first | refine CW.seq ?_ | refine CW.region ?_ | refine CW.condd rfl (fun h => ?_) (fun h => ?_) | refine CW.skip ?_ | refine CW.ret ?_) | (show Post _ _ _ _ _; first | refine Post.seq ?_ | refine Post.seq_ret ?_) | refine SW.nil ?_ | refine SW.pure rfl rfl ?_ | (show SW _ _ _ _ (⟨_, Op.fieldAddr _ _ _, _, _, _, none⟩ :: _) _ _; refine SW.st (st_field rfl) rfl ?_) | (show SW _ _ _ _ (⟨_, Op.indexAddr _ _ _, _, _, _, none⟩ :: _) _ _; refine SW.st (st_indexN rfl rfl (by assumption) (by omega)) rfl ?_) | (show SW _ _ _ _ (⟨_, Op.load _ _, _, _, _, none⟩ :: _) _ _; first | refine SW.st (st_load rfl (hb1.cell rfl)) rfl ?_ | refine SW.st (st_loadx hw rfl f0) rfl ?_))
 all_goals
  refine Post.ret1 rfl rfl ⟨_, rfl, hw, ?_⟩
  first | (rw [if_pos (by omega)]) | (rw [if_neg (by omega)])
def BackRes (w : World) (lo g c : Nat) (s : Zone × Zone) (b : Block) (w' : World) : Prop := w.grownBy w' (some g) ∧ ∃ u0 u1, ZsOwn w' lo g c u0 u1 (backP s b)
theorem returned_ans (m : Sli) (cp : Int) (li lv : Sli) (u0 u1 : ZRow) (s : Zone × Zone) (bs : List Block) (b : Block) (lo g c : Nat) (w : World) (hZ : ZsOwn w lo g c u0 u1 s) (hlo : lo ≤ w.heap.size) (hD : DInv s bs) (hN : NextB bs b) :
  AnsX Tryd.prog 97 [.agg (encH ⟨⟨some ⟨g, 0, none⟩, 2, c⟩, m, cp, li, lv⟩).toArray, .int .i64 b.At, .int .i64 b.Order] w fun v w' => v = .agg (encH ⟨⟨some ⟨g, 0, none⟩, 2, c⟩, m, cp, li, lv⟩).toArray ∧ BackRes w lo g c s b w' := by
 refine ansx_of Tryd.func97 rfl Tryd.ntmps97 rfl ?_
 refine CW.seq (CW.region (SW.box rfl rfl fun b3 w1 hw hb3b hb3 => ?_))
 refine SW.alloc rfl fun b6 w2 hw2 hb6b hb6 => ?_
 have hb6w : w.heap.size ≤ b6 := Nat.le_trans hw.size hb6b
 (replace hw := Ext.trans hw hw2; replace hb3 := hb3.ext hw2)
 replace hZ := hZ.ext hw
 have eT := hZ.z0.to_
 have eF := hZ.z1.from_
 have eM := hD.mid
 obtain ⟨q1, q2, q3, q4⟩ := may_fit hZ.z0 hD.may0
 obtain ⟨p1, p2, p3, p4⟩ := may_fit hZ.z1 hD.may1
 have hA := hZ.row.sl.base
 have cz : ∀ w', Sl w' 4 encZ (some ⟨g, 0, none⟩) 2 [u0, u1] → Ans Tryd.prog 127 [.agg (encH ⟨⟨some ⟨g, 0, none⟩, 2, c⟩, m, cp, li, lv⟩).toArray, .int .i64 b.At] w' fun v _ => v = .int .i64 (if b.At < u1.From then 0 else 1) := fun w' h => zoneAt2_ans ⟨⟨some ⟨g, 0, none⟩, 2, c⟩, m, cp, li, lv⟩ u0 u1 b.At w' h
 by_cases hx : b.At < u1.From
 ·have eP : backP s b = ((backV s.1 b.At b.Order).2, s.2) := by unfold backP; rw [if_pos (by omega)]
  simp only [if_pos hx] at cz
  have k0 : 0 < 2 := by omega
  repeat' (first | (show CW _ _ _ _ _ _; first | refine CW.seq ?_ | refine CW.region ?_) | (show Post _ _ _ _ _; refine Post.seq ?_) | refine SW.nil ?_ | refine SW.pure rfl rfl ?_ | (show SW _ _ _ _ (⟨_, Op.fieldAddr _ _ _, _, _, _, none⟩ :: _) _ _; refine SW.st (st_field rfl) rfl ?_) | (show SW _ _ _ _ (⟨_, Op.load _ _, _, _, _, none⟩ :: _) _ _; refine SW.st (st_loads rfl rfl ((fun _ _ => hb3.cell))) rfl ?_) | (show SW _ _ _ _ (⟨_, Op.call ⟨.value (.func _), _, _⟩, _, _, _, none⟩ :: _) _ _; (refine SW.call rfl rfl (cz _ hZ.row.sl) ?_; intro v w1 hw1 hv; subst hv; replace hw := Ext.trans hw hw1; replace hb3 := hb3.ext hw1; replace hb6 := hb6.ext hw1; replace hZ := hZ.ext hw1; clear hw1)))
  repeat' (first | refine SW.pure rfl rfl ?_ | (show SW _ _ _ _ (⟨_, Op.indexAddr _ _ _, _, _, _, none⟩ :: _) _ _; refine SW.st (st_indexN rfl rfl (by assumption) (by omega)) rfl ?_) | (show SW _ _ _ _ (⟨_, Op.load _ _, _, _, _, none⟩ :: _) _ _; first | refine SW.st (st_load rfl (hb3.cell rfl)) rfl ?_ | refine SW.st (st_loads rfl rfl ((hZ.row.sl.all k0))) rfl ?_))
  refine SW.call rfl rfl (BackOf_ans u0 s.1 b.At b.Order _ hZ.z0.rd q1 q2 ⟨by omega, by omega⟩ ⟨by omega, by omega⟩) fun v w4 hXX hv => ?_
  obtain ⟨u', rfl, hs'⟩ := hv
  replace hs' := hs'.low (Nat.le_trans hlo hw.size)
  (replace hw := Ext.trans hw hXX; replace hb3 := hb3.ext hXX; replace hb6 := hb6.ext hXX; replace hZ := hZ.ext hXX)
  repeat' (refine SW.pure rfl rfl ?_)
  refine SW.alloc rfl fun b8 w1 hw1 hb8b hb8 => ?_
  skip
  refine SW.storeAgg hb8 rfl rfl rfl rfl (one_z u') fun w2 hb8' hg => ?_
  have hXX := hw1.own hb8b hg
  have hb8w : w.heap.size ≤ b8 := Nat.le_trans hw.size hb8b
  replace hw := Ext.trans hw hXX
  replace hb3 := hb3.ext hXX
  replace hb6 := hb6.ext hXX
  replace hZ := hZ.ext hXX
  replace hs' := hs'.ext hXX
  replace hb8 := hb8'
  clear hb8' hw1 hg hXX
  repeat' (first | (show CW _ _ _ _ _ _; first | refine CW.seq ?_ | refine CW.region ?_) | (show Post _ _ _ _ _; refine Post.seq ?_) | refine SW.nil ?_ | refine SW.pure rfl rfl ?_ | (show SW _ _ _ _ (⟨_, Op.fieldAddr _ _ _, _, _, _, none⟩ :: _) _ _; refine SW.st (st_field rfl) rfl ?_) | (show SW _ _ _ _ (⟨_, Op.indexAddr _ _ _, _, _, _, none⟩ :: _) _ _; refine SW.st (st_indexN rfl rfl (by assumption) (by omega)) rfl ?_) | (show SW _ _ _ _ (⟨_, Op.load _ _, _, _, _, none⟩ :: _) _ _; first | refine SW.st (st_load rfl (hb3.cell rfl)) rfl ?_ | refine SW.st (st_loads rfl rfl ((fun _ _ => hb8.cell))) rfl ?_))
  refine SW.storeElem (enc := encZ) 0 u' hZ.row rfl rfl k0 fun w5 hO hg => ?_
  rw [hZ.own] at hg
  have hG := hZ.gr hg
  have hgg := grown_trans (hw.gr (some g)) hg (.inl rfl)
  have hZ' : ZsOwn w5 lo g c u' u1 (backP s b) := by rw [eP]; exact ⟨hO, hs'.grT hG rfl, hZ.z1.grT hG rfl, hZ.glo, hZ.pos⟩
  clear hZ hs' hb8 cz hO
  (replace hb3 := hb3.grT hG rfl; replace hb6 := hb6.grT hG rfl)
  have hw3 := Ext.refl w5
  clear hw
  have hw := hw3
  repeat' (first | (show CW _ _ _ _ _ _; first | refine CW.seq ?_ | refine CW.region ?_) | (show Post _ _ _ _ _; refine Post.seq ?_) | refine SW.nil ?_ | (show SW _ _ _ _ (⟨_, Op.load _ _, _, _, _, none⟩ :: _) _ _; refine SW.st (st_loads rfl rfl ((fun _ _ => hb3.cell))) rfl ?_))
  refine SW.storeAgg hb6 rfl rfl rfl rfl (one_h ⟨⟨some ⟨g, 0, none⟩, 2, c⟩, m, cp, li, lv⟩) fun w6 hR2 hg => ?_
  have hG := hb6.gr hg
  replace hgg := grown_trans hgg hg (.inr fun i e => by cases e; exact hb6w)
  repeat' (first | (show CW _ _ _ _ _ _; refine CW.ret ?_) | (show Post _ _ _ _ _; refine Post.seq ?_) | refine SW.nil ?_)
  exact Post.ret1c rfl rfl hR2 rfl ⟨_, rfl, rfl, hgg, u', u1, hZ'.grT hG rfl⟩
 ·have eP : backP s b = (s.1, (backV s.2 b.At b.Order).2) := by unfold backP; rw [if_neg (by omega)]
  simp only [if_neg hx] at cz
  have k0 : 1 < 2 := by omega
  repeat' (first | (show CW _ _ _ _ _ _; first | refine CW.seq ?_ | refine CW.region ?_) | (show Post _ _ _ _ _; refine Post.seq ?_) | refine SW.nil ?_ | refine SW.pure rfl rfl ?_ | (show SW _ _ _ _ (⟨_, Op.fieldAddr _ _ _, _, _, _, none⟩ :: _) _ _; refine SW.st (st_field rfl) rfl ?_) | (show SW _ _ _ _ (⟨_, Op.load _ _, _, _, _, none⟩ :: _) _ _; refine SW.st (st_loads rfl rfl ((fun _ _ => hb3.cell))) rfl ?_) | (show SW _ _ _ _ (⟨_, Op.call ⟨.value (.func _), _, _⟩, _, _, _, none⟩ :: _) _ _; (refine SW.call rfl rfl (cz _ hZ.row.sl) ?_; intro v w1 hw1 hv; subst hv; replace hw := Ext.trans hw hw1; replace hb3 := hb3.ext hw1; replace hb6 := hb6.ext hw1; replace hZ := hZ.ext hw1; clear hw1)))
  repeat' (first | refine SW.pure rfl rfl ?_ | (show SW _ _ _ _ (⟨_, Op.indexAddr _ _ _, _, _, _, none⟩ :: _) _ _; refine SW.st (st_indexN rfl rfl (by assumption) (by omega)) rfl ?_) | (show SW _ _ _ _ (⟨_, Op.load _ _, _, _, _, none⟩ :: _) _ _; first | refine SW.st (st_load rfl (hb3.cell rfl)) rfl ?_ | refine SW.st (st_loads rfl rfl ((hZ.row.sl.all k0))) rfl ?_))
  refine SW.call rfl rfl (BackOf_ans u1 s.2 b.At b.Order _ hZ.z1.rd p1 p2 ⟨by omega, by omega⟩ ⟨by omega, by omega⟩) fun v w4 hXX hv => ?_
  obtain ⟨u', rfl, hs'⟩ := hv
  replace hs' := hs'.low (Nat.le_trans hlo hw.size)
  (replace hw := Ext.trans hw hXX; replace hb3 := hb3.ext hXX; replace hb6 := hb6.ext hXX; replace hZ := hZ.ext hXX)
  repeat' (refine SW.pure rfl rfl ?_)
  refine SW.alloc rfl fun b8 w1 hw1 hb8b hb8 => ?_
  skip
  refine SW.storeAgg hb8 rfl rfl rfl rfl (one_z u') fun w2 hb8' hg => ?_
  have hXX := hw1.own hb8b hg
  have hb8w : w.heap.size ≤ b8 := Nat.le_trans hw.size hb8b
  replace hw := Ext.trans hw hXX
  replace hb3 := hb3.ext hXX
  replace hb6 := hb6.ext hXX
  replace hZ := hZ.ext hXX
  replace hs' := hs'.ext hXX
  replace hb8 := hb8'
  clear hb8' hw1 hg hXX
  repeat' (first | (show CW _ _ _ _ _ _; first | refine CW.seq ?_ | refine CW.region ?_) | (show Post _ _ _ _ _; refine Post.seq ?_) | refine SW.nil ?_ | refine SW.pure rfl rfl ?_ | (show SW _ _ _ _ (⟨_, Op.fieldAddr _ _ _, _, _, _, none⟩ :: _) _ _; refine SW.st (st_field rfl) rfl ?_) | (show SW _ _ _ _ (⟨_, Op.indexAddr _ _ _, _, _, _, none⟩ :: _) _ _; refine SW.st (st_indexN rfl rfl (by assumption) (by omega)) rfl ?_) | (show SW _ _ _ _ (⟨_, Op.load _ _, _, _, _, none⟩ :: _) _ _; first | refine SW.st (st_load rfl (hb3.cell rfl)) rfl ?_ | refine SW.st (st_loads rfl rfl ((fun _ _ => hb8.cell))) rfl ?_))
  refine SW.storeElem (enc := encZ) 1 u' hZ.row rfl rfl k0 fun w5 hO hg => ?_
  rw [hZ.own] at hg
  have hG := hZ.gr hg
  have hgg := grown_trans (hw.gr (some g)) hg (.inl rfl)
  have hZ' : ZsOwn w5 lo g c u0 u' (backP s b) := by rw [eP]; exact ⟨hO, hZ.z0.grT hG rfl, hs'.grT hG rfl, hZ.glo, hZ.pos⟩
  clear hZ hs' hb8 cz hO
  (replace hb3 := hb3.grT hG rfl; replace hb6 := hb6.grT hG rfl)
  have hw3 := Ext.refl w5
  clear hw
  have hw := hw3
  repeat' (first | (show CW _ _ _ _ _ _; first | refine CW.seq ?_ | refine CW.region ?_) | (show Post _ _ _ _ _; refine Post.seq ?_) | refine SW.nil ?_ | (show SW _ _ _ _ (⟨_, Op.load _ _, _, _, _, none⟩ :: _) _ _; refine SW.st (st_loads rfl rfl ((fun _ _ => hb3.cell))) rfl ?_))
  refine SW.storeAgg hb6 rfl rfl rfl rfl (one_h ⟨⟨some ⟨g, 0, none⟩, 2, c⟩, m, cp, li, lv⟩) fun w6 hR2 hg => ?_
  have hG := hb6.gr hg
  replace hgg := grown_trans hgg hg (.inr fun i e => by cases e; exact hb6w)
  repeat' (first | (show CW _ _ _ _ _ _; refine CW.ret ?_) | (show Post _ _ _ _ _; refine Post.seq ?_) | refine SW.nil ?_)
  exact Post.ret1c rfl rfl hR2 rfl ⟨_, rfl, rfl, hgg, u0, u', hZ'.grT hG rfl⟩
end Go.Proofs.YtfommgdbahemfaaDoor
set_option linter.unusedVariables false
set_option linter.unusedSimpArgs false
namespace Go.Proofs.YtfommgdbahemfaaDoor
open Go.RowKit
theorem OwnHS.split {w : World} {lo : Nat} {r : HRow} {h : Heap} (a : OwnHS w lo r h) {z0 z1 : Zone} (hz : h.Zones = [z0, z1]) : ∃ g c u0 u1 ls, r.Zones = ⟨some ⟨g, 0, none⟩, 2, c⟩ ∧ ZsOwn w lo g c u0 u1 (z0, z1) ∧ OwnLs w lo r.Lists ls h.Lists ∧ SepM r.Mins [u0, u1] ls ∧ SepF r.Live [u0, u1] := by
 obtain ⟨zs, ls, hzs, hls, hm, hf⟩ := a.all
 have l0 := hzs.each.len
 rw [hz] at l0
 obtain ⟨u0, u1, rfl⟩ := two_of (show zs.length = 2 from l0)
 have l1 := hzs.row.len
 have h0 := hzs.each.get 0 (by simp) (by simp [hz])
 have h1 := hzs.each.get 1 (by simp) (by simp [hz])
 simp only [hz] at h0 h1
 have hc : 0 < r.Zones.c := by have := hzs.row.le; simp at l1; omega
 obtain ⟨g, rest, hA, hlo, _⟩ := hzs.row.opened hc
 refine ⟨g, r.Zones.c, u0, u1, ls, ?_, ⟨?_, h0, h1, hlo, hc⟩, hls, hm, hf⟩
 ·rw [← hA]
  have : (2 : Nat) = r.Zones.n := l1
  rw [this]
 ·have := hzs.row
  rw [hA, ← l1] at this
  exact this
theorem Own.apart {α : Type} {w w' : World} {lo : Nat} {e : TypeId} {sz : Nat} {enc : α → List Value} {A : Option Addr} {n c : Nat} {l : List α} (h : Own w lo e sz enc A n c l) {row : Option Nat} (hg : w.grownBy w' row) (hs : ∀ g, ownB A c = some g → row ≠ some g) : Own w' lo e sz enc A n c l := by
 refine h.grown hg ?_
 cases e : ownB A c with
 | none => exact .inl rfl
 | some g => exact .inr (fun e2 => hs g e e2.symm)
theorem ZsOwn.atLive {w w' : World} {lo g c : Nat} {u0 u1 : ZRow} {s : Zone × Zone} (h : ZsOwn w lo g c u0 u1 s) {lv : Sli} (hs : SepF lv [u0, u1]) (hg : w.grownBy w' (ownB lv.A lv.c)) (hG : GrT w w' 55) : ZsOwn w' lo g c u0 u1 s :=
 ⟨h.row.grT hG rfl, ⟨h.z0.from_, h.z0.to_, h.z0.free.apart hg (hs u0 (by simp)), h.z0.types.grT hG rfl⟩, ⟨h.z1.from_, h.z1.to_, h.z1.free.apart hg (hs u1 (by simp)), h.z1.types.grT hG rfl⟩, h.glo, h.pos⟩
theorem ZsOwn.atPages {w w' : World} {lo g c : Nat} {u0 u1 : ZRow} {s : Zone × Zone} (h : ZsOwn w lo g c u0 u1 s) {row : Option Nat} (hg : w.grownBy w' row) (hG : GrT w w' 3) (hs : ∀ k, row = some k → ∀ u ∈ [u0, u1], ownB u.Types.A u.Types.c ≠ some k) : ZsOwn w' lo g c u0 u1 s :=
 ⟨h.row.grT hG rfl, ⟨h.z0.from_, h.z0.to_, h.z0.free.grT hG rfl, h.z0.types.apart hg (fun k e e2 => hs k e2 u0 (by simp) e)⟩, ⟨h.z1.from_, h.z1.to_, h.z1.free.grT hG rfl, h.z1.types.apart hg (fun k e e2 => hs k e2 u1 (by simp) e)⟩, h.glo, h.pos⟩
structure Away (w0 : World) (li : Sli) (b1 : Nat) (o : Option Nat) : Prop where
 out : ∀ k, o = some k → k ≠ b1 ∧ ownB li.A li.c ≠ some k ∧ k < w0.heap.size
theorem Away.ne {w0 : World} {li : Sli} {b1 : Nat} {o row : Option Nat} (h : Away w0 li b1 o) (hr : ∀ k, row = some k → k = b1 ∨ ownB li.A li.c = some k ∨ w0.heap.size ≤ k) : ∀ g, o = some g → row ≠ some g := fun g e e2 => by
 obtain ⟨h1, h2, h3⟩ := h.out g e
 rcases hr g e2 with h | h | h
 ·exact h1 h
 ·exact h2 h
 ·omega
theorem Own.away {α : Type} {w0 : World} {lo : Nat} {e : TypeId} {sz : Nat} {enc : α → List Value} {A : Option Addr} {n c : Nat} {l : List α} (h : Own w0 lo e sz enc A n c l) {li : Sli} {ls : List LRow} {L : List PList} {b1 : Nat} {cs : List Value} (hl : OwnLs w0 lo li ls L) (hb : Blk w0 b1 35 cs) (h1 : Nat.beq 35 e = false) (h2 : Nat.beq e 84 = false) : Away w0 li b1 (ownB A c) :=
 ⟨fun k hk => ⟨fun e => h.ne_blk hb h1 (by rw [hk, e]), by
  rcases h.row with ⟨_, rfl⟩ | ⟨hc, g, cur, rfl, _, hg, _⟩
  ·simp [ownB] at hk
  ·simp only [ownB, Nat.pos_iff_ne_zero.1 hc, if_false, Option.map_some, Option.some.injEq] at hk
   subst hk
   exact hl.row.ne_blk (cs := cur.toList) (by unfold Blk; simpa using hg) h2, h.lt_size k hk⟩⟩
theorem Own.ne_own {α β : Type} {w0 : World} {lo lo' : Nat} {e e' : TypeId} {sz sz' : Nat} {enc : α → List Value} {enc' : β → List Value} {A A' : Option Addr} {n n' c c' : Nat} {l : List α} {l' : List β} (h : Own w0 lo e sz enc A n c l) (h' : Own w0 lo' e' sz' enc' A' n' c' l') (hne : Nat.beq e e' = false) : ∀ k, ownB A c = some k → ownB A' c' ≠ some k := fun k hk => by
 rcases h.row with ⟨_, rfl⟩ | ⟨hc, g, cur, rfl, _, hg, _⟩
 ·simp [ownB] at hk
 ·simp only [ownB, Nat.pos_iff_ne_zero.1 hc, if_false, Option.map_some, Option.some.injEq] at hk
  subst hk
  exact h'.ne_blk (cs := cur.toList) (by unfold Blk; simpa using hg) hne
theorem ZsOwn.parts {w w' : World} {lo g c : Nat} {u0 u1 : ZRow} {s : Zone × Zone} {row : Option Nat} (h : ZsOwn w lo g c u0 u1 s) (hg : w.grownBy w' row) (h0 : ∀ k, ownB (some (⟨g, 0, none⟩ : Addr)) c = some k → row ≠ some k) (h1 : ∀ k, ownB u0.Free.A u0.Free.c = some k → row ≠ some k) (h2 : ∀ k, ownB u0.Types.A u0.Types.c = some k → row ≠ some k)
  (h3 : ∀ k, ownB u1.Free.A u1.Free.c = some k → row ≠ some k) (h4 : ∀ k, ownB u1.Types.A u1.Types.c = some k → row ≠ some k) : ZsOwn w' lo g c u0 u1 s :=
 ⟨h.row.apart hg h0, ⟨h.z0.from_, h.z0.to_, h.z0.free.apart hg h1, h.z0.types.apart hg h2⟩, ⟨h.z1.from_, h.z1.to_, h.z1.free.apart hg h3, h.z1.types.apart hg h4⟩, h.glo, h.pos⟩
def ob (s : Sli) : Option Nat := ownB s.A s.c
def sepR (a b : LRow) : Prop := ∀ g, ob a.Pages = some g → ob b.Pages ≠ some g
theorem sepR_symm {a b : LRow} (h : sepR a b) : sepR b a := fun g e e2 => h g e2 e
theorem sepL_iff {ls : List LRow} : SepL ls ↔ ls.Pairwise sepR := by
 rw [List.pairwise_iff_getElem]
 refine ⟨fun h i j hi hj hij g e => h i j hi hj (by omega) g e, fun h i j hi hj hij g e => ?_⟩
 rcases Nat.lt_or_gt_of_ne hij with h1 | h1
 ·exact h i j hi hj h1 g e
 ·exact sepR_symm (h j i hj hi h1) g e
structure PSep (n : Nat) (li : Sli) (ls : List LRow) (li' : Sli) (ls' : List LRow) : Prop where
 sep : SepL ls'
 of : ∀ y ∈ ls', ∀ g, ob y.Pages = some g → (∃ x ∈ ls, ob x.Pages = some g) ∨ n ≤ g
 row : ∀ k, ob li' = some k → ob li = some k ∨ n ≤ k
theorem PSep.set_ {n : Nat} {li : Sli} {ls : List LRow} {i : Nat} {y : LRow} (hs : SepL ls) (hlt : ∀ x ∈ ls, ∀ g, ob x.Pages = some g → g < n) (hi : i < ls.length) (hy : ∀ g, ob y.Pages = some g → ob ls[i].Pages = some g ∨ n ≤ g) : PSep n li ls li (ls.set i y) := by
 refine ⟨fun a b ha hb hab g e e2 => ?_, fun z hz g e => ?_, fun k e => .inl e⟩
 ·simp only [List.length_set] at ha hb
  change ob ((ls.set i y)[a]).Pages = some g at e
  change ob ((ls.set i y)[b]).Pages = some g at e2
  simp only [List.getElem_set] at e e2
  by_cases h1 : i = a
  ·rw [if_pos h1] at e
   rw [if_neg (by omega)] at e2
   rcases hy g e with h | h
   ·subst h1; exact hs _ _ hi hb hab g h e2
   ·have := hlt _ (List.getElem_mem hb) g e2; omega
  ·rw [if_neg h1] at e
   by_cases h2 : i = b
   ·rw [if_pos h2] at e2
    rcases hy g e2 with h | h
    ·subst h2; exact hs _ _ ha hi hab g e h
    ·have := hlt _ (List.getElem_mem ha) g e; omega
   ·rw [if_neg h2] at e2
    exact hs _ _ ha hb hab g e e2
 ·rcases List.mem_or_eq_of_mem_set hz with h | rfl
  ·exact .inl ⟨z, h, e⟩
  ·rcases hy g e with h | h
   ·exact .inl ⟨_, List.getElem_mem hi, h⟩
   ·exact .inr h
theorem PSep.ins {n : Nat} {li li' : Sli} {ls : List LRow} {i : Nat} {y : LRow} (hs : SepL ls) (hlt : ∀ x ∈ ls, ∀ g, ob x.Pages = some g → g < n) (hy : ∀ g, ob y.Pages = some g → n ≤ g) (hr : ∀ k, ob li' = some k → ob li = some k ∨ n ≤ k) : PSep n li ls li' (insAt ls i y) := by
 have hm : ∀ z, z ∈ insAt ls i y → z ∈ ls ∨ z = y := fun z hz => by
  unfold insAt at hz
  rw [List.mem_append, List.mem_append, List.mem_singleton] at hz
  rcases hz with (hz | hz) | hz
  ·exact .inl (List.mem_of_mem_take hz)
  ·exact .inr hz
  ·exact .inl (List.mem_of_mem_drop hz)
 refine ⟨?_, fun z hz g e => ?_, hr⟩
 ·have hs := sepL_iff.1 hs
  rw [← List.take_append_drop i ls, List.pairwise_append] at hs
  obtain ⟨h1, h2, h3⟩ := hs
  rw [sepL_iff]
  unfold insAt
  rw [List.append_assoc, List.pairwise_append]
  refine ⟨h1, ?_, fun a ha b hb => ?_⟩
  ·rw [List.singleton_append, List.pairwise_cons]
   exact ⟨fun b hb g e e2 => by have := hy g e; have := hlt b (List.mem_of_mem_drop hb) g e2; omega, h2⟩
  ·rw [List.singleton_append, List.mem_cons] at hb
   rcases hb with rfl | hb
   ·exact fun g e e2 => by have := hy g e2; have := hlt a (List.mem_of_mem_take ha) g e; omega
   ·exact h3 a ha b hb
 ·rcases hm z hz with h | rfl
  ·exact .inl ⟨z, h, e⟩
  ·exact .inr (hy g e)
theorem SW.append3 {α : Type} {P : Program} {n : Nat} {ops : Array Oper} {Q : Exit → Act → World → Prop} {rest : List Oper} {L : Env} {w : World} {dd : Nat} {T : TypeId} {pos : String} {af : Array Edge}
  {lo : Nat} {t e : TypeId} {z : Value} {sz bytes : Nat} {enc : α → List Value} {A X : Option Addr} {k c m c2 : Nat} {l ys : List α} [SliceTy P t e sz] [ElemTy P e z sz bytes] [Enc enc sz] {x y : Operand}
  (hO : Own w lo e sz enc A k c l) (hS : Sl w sz enc X m ys) (hlo : lo ≤ w.heap.size) (hm0 : 0 < m) (hx : opv L x = some (.slice A k c)) (hy : opv L y = some (.slice X m c2)) (hn : Nat.blt dd n = true)
  (hb : (k + m) * bytes ≤ 140737488355328) (hm : k + m ≤ 9223372036854775807)
  (h : ∀ A' c' w', Own w' lo e sz enc A' (k + m) c' (l ++ ys) → w.grownBy w' (ownB A c) → (∀ g, ownB A' c' = some g → ownB A c = some g ∨ w.heap.size ≤ g) → SW P n ops (.eff Q) rest ((dd, .slice A' (k + m) c') :: L) w') :
  SW P n ops (.eff Q) (⟨some dd, .call ⟨.builtin .append, #[x, y], #[t, t]⟩, T, pos, af, none⟩ :: rest) L w := by
 refine SW.append2 hO hS hlo hm0 hx hy hn hb hm fun A' c' w' hh => ?_
 rcases hh with ⟨rfl, rfl, h1, h2⟩ | ⟨h1, h2⟩
 ·exact h _ _ _ h1 h2 (fun g e => .inl e)
 ·exact h _ _ _ (h1.low hlo) ⟨h2.os, h2.tape, h2.output, h2.size, fun k hk _ => h2.block k hk (fun e => by cases e)⟩ (fun g e => .inr (h1.row_ge g e))
end Go.Proofs.YtfommgdbahemfaaDoor
