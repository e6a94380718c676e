/-
  Texts of the claim PagesAllocs, part 11: what its theorem leans on.
-/
import Derived.Test.YtfommgdbahemfaaDoorPackPagesAllocs9
import Derived.Test.YtfommgdbahemfaaDoorPackPagesAllocs8
import Derived.Test.YtfommgdbahemfaaDoorPackPagesAllocs10
import Derived.Test.YtfommgdbahemfaaDoorRows
import Derived.ProofKit
import Derived.LaidMore
import Derived.OpenShut
import Derived.Stop.Joined
set_option linter.unusedVariables false
set_option linter.unusedSimpArgs false
namespace Go.Proofs.YtfommgdbahemfaaDoor
open Go.RowKit
structure OthW (w : World) : Prop where
 row : ∀ (k : Nat), k < 3 → ∀ (j : Nat) (v : Value), [Value.int .i64 (oth1 (k : Int)), Value.int .i64 (oth2 (k : Int))][j]? = some v → w.cell? (((⟨0, 0, none⟩ : Addr).add (k * 2)).add j) = some v
theorem OthW.ext {w w' : World} (h : OthW w) (hx : Ext w w') : OthW w' := ⟨fun k hk j v hv => hx.cell (h.row k hk j v hv)⟩
def TakeOut (lo : Nat) (u : Zone × Int × Int) (v : Value) (w : World) : Prop := ∃ s, v = .tuple #[.agg (encZ s).toArray, .int .i64 u.2.1, .int .i64 u.2.2] ∧ OwnZ w lo s u.1
theorem TakeOut.zero (e : Int) (lo : Nat) (w : World) : TakeOut lo (.zero, 0, e) (.tuple #[.agg (encZ .zero).toArray, .int .i64 0, .int .i64 e]) w := ⟨.zero, rfl, OwnZ.zero _ _⟩
theorem idx_hit {α : Type} {p : α → Bool} {l : List α} (h : l.any p = true) : ∃ (k : Nat) (hk : k < l.length), p l[k] = true ∧ (∀ (j : Nat) (hj : j < l.length), j < k → p l[j] = false) ∧ idxOf p l = (k : Int) := by
 have h1 : l.findIdx p < l.length := List.findIdx_lt_length_of_exists (by simpa using h)
 exact ⟨l.findIdx p, h1, List.findIdx_getElem (w := h1), fun j hj hji => by simpa using List.not_of_lt_findIdx hji, by unfold idxOf; rw [if_pos h]⟩
theorem idx_miss {α : Type} {p : α → Bool} {l : List α} (h : l.any p = false) : idxOf p l = -1 := by unfold idxOf; rw [h]; rfl
theorem Own.ne_one {w : World} {lo b : Nat} {A : Option Addr} {n c : Nat} {l : List Block} {x : Block} (h : Own w lo 55 3 encBk A n c l) (hB : Blk w b 55 (encBk x)) (hn : 0 < n) (hx : ∀ y ∈ l, y.At ≠ x.At) : ownB A c ≠ some b := by
 rcases h.row with ⟨h0, _⟩ | ⟨hc, g, cur, rfl, h1, h2, h3, h4, h5, h6⟩
 ·omega
 ·intro e
  simp only [ownB, Nat.pos_iff_ne_zero.1 hc, if_false, Option.map_some, Option.some.injEq] at e
  subst e
  unfold Blk at hB
  rw [h2] at hB
  injection hB with hB
  injection hB with hcur _ _
  subst hcur
  have hc1 : c = 1 := by simp [encBk] at h5; omega
  have hn1 : n = 1 := by omega
  have hl := h.len
  rw [hn1] at hl
  obtain ⟨y, rfl⟩ := List.length_eq_one_iff.1 hl
  rw [hn1] at h6
  simp [encBk] at h6
  exact hx y (by simp) h6.1.symm
set_option maxHeartbeats 8000000 in
theorem Take_ans (r : ZRow) (z : Zone) (o t : Int) (w : World) (hr : RdZ w r z) (hf : (r.Free.n + 1) * 24 ≤ 140737488355328) (ht : r.Types.n * 8 ≤ 140737488355328) (h1 : -9223372036854775808 ≤ r.From ∧ r.From ≤ 9223372036854775807) (h2 : -9223372036854775808 ≤ r.To ∧ r.To ≤ 9223372036854775807) (hO : OthW w) :
  Ans Tryd.prog 7 [.agg (encZ r).toArray, .int .i64 o, .int .i64 t] w fun v w' => ∃ u, TakeR z o t u ∧ TakeOut w.heap.size u v w' := by
 refine ans_of Tryd.func7 rfl Tryd.ntmps7 rfl ?_
 refine CW.seq (CW.region (SW.box rfl rfl fun b3 w1 hw hb3b hb3 => ?_))
 refine SW.alloc rfl fun b6 w2 hw2 hb6b hb6 => ?_
 have hb6w : w.heap.size ≤ b6 := Nat.le_trans hw.size hb6b
 have hne36 : b3 ≠ b6 := by have := hb3.lt; omega
 (replace hw := Ext.trans hw hw2; replace hb3 := hb3.ext hw2)
 have eF := hr.from_
 have eT := hr.to_
 have hFl := hr.free.len
 have hTl := hr.types.len
 obtain ⟨q, hq⟩ : ∃ q, zoneB z = q := ⟨_, rfl⟩
 have c1 : ∀ w', Ext w w' → Ans Tryd.prog 18 [.agg (encZ r).toArray] w' fun v _ => v = .int .i64 (if q then 0 else 8) := fun w' h => by
  have := Zcheck_ans r z w' (hr.ext h) (by omega) (by omega) h1 h2
  rwa [hq] at this
 cases q
 ·simp only [Bool.false_eq_true, if_false] at c1
  repeat' (first | (show CW _ _ _ _ _ _; first | refine CW.seq ?_ | refine CW.region ?_ | refine CW.condn_t rfl (by omega) ?_) | (show Post _ _ _ _ _; refine Post.seq ?_) | refine SW.nil ?_ | refine SW.pure rfl rfl ?_ | (show SW _ _ _ _ (⟨_, Op.build _ _, _, _, _, none⟩ :: _) _ _; refine SW.st (st_build rfl rfl) rfl ?_) | (show SW _ _ _ _ (⟨_, Op.load _ _, _, _, _, none⟩ :: _) _ _; refine SW.st (st_loads rfl rfl ((fun _ _ => hb3.cell))) rfl ?_) | (show SW _ _ _ _ (⟨_, Op.call ⟨.value (.func _), _, _⟩, _, _, _, none⟩ :: _) _ _; (refine SW.call rfl rfl (c1 _ hw) ?_; intro v w1 hw1 hv; subst hv; replace hw := Ext.trans hw hw1; replace hb3 := hb3.ext hw1; replace hb6 := hb6.ext hw1; clear hw1)))
  skip
  refine SW.storeAgg hb6 rfl rfl rfl rfl (one_z .zero) fun w5 hR2 hg => ?_
  replace hw := hw.own hb6w hg
  repeat' (first | (show CW _ _ _ _ _ _; refine CW.ret ?_) | (show Post _ _ _ _ _; first | refine Post.seq ?_ | refine Post.seq_ret ?_) | refine SW.nil ?_ | refine SW.pure rfl rfl ?_)
  exact Post.ret3c rfl rfl rfl rfl hR2 rfl ⟨_, rfl, hw, _, .bad hq, TakeOut.zero 8 _ _⟩
 ·simp only [if_true] at c1
  have hz := zoneB_iff.1 hq
  obtain ⟨o1, o2, o3, o4, o5⟩ := hz.ok
  by_cases ho : 0 ≤ o ∧ o ≤ 4
  ·by_cases hty : tyOk t
   ·have hty' := hty
    unfold tyOk at hty'
    repeat' (first | (show CW _ _ _ _ _ _; first | refine CW.seq ?_ | refine CW.region ?_ | refine CW.condd_f rfl (by omega) ?_ | refine CW.condn_f rfl (by omega) ?_ | refine CW.skip ?_) | (show Post _ _ _ _ _; refine Post.seq ?_) | refine SW.nil ?_ | (show SW _ _ _ _ (⟨_, _, _, _, _, some _⟩ :: _) _ _; first | refine SW.want_f rfl rfl (by with_reducible rfl) ?_ | refine SW.splitd_f rfl rfl rfl (by omega) ?_) | refine SW.pure rfl rfl ?_ | (show SW _ _ _ _ (⟨_, Op.load _ _, _, _, _, none⟩ :: _) _ _; refine SW.st (st_loads rfl rfl ((fun _ _ => hb3.cell))) rfl ?_) | (show SW _ _ _ _ (⟨_, Op.call ⟨.value (.func _), _, _⟩, _, _, _, none⟩ :: _) _ _; (refine SW.call rfl rfl (c1 _ hw) ?_; intro v w1 hw1 hv; subst hv; replace hw := Ext.trans hw hw1; replace hb3 := hb3.ext hw1; replace hb6 := hb6.ext hw1; clear hw1)))
    refine SW.call rfl rfl (Zcopy_ans r z _ (hr.ext hw) (by omega) ht) fun v w4 hw4 hv => ?_
    obtain ⟨s, rfl, hs, e1, e2⟩ := hv
    replace hs := hs.low hw.size
    (replace hw := Ext.trans hw hw4; replace hb3 := hb3.ext hw4; replace hb6 := hb6.ext hw4)
    clear c1
    skip
    refine SW.storeAgg hb3 rfl rfl rfl rfl (one_z s) fun w5 hb3' hg => ?_
    have hG := hb3.gr hg
    replace hw := hw.own hb3b hg
    have hX := hs.free.grT hG rfl
    have hT := hs.types.grT hG rfl
    replace hb6 := hb6.grown hg (by simpa using hne36.symm)
    replace hb3 := hb3'
    have es : s.Free.n = z.Free.length := by rw [e1, hFl]
    have sF := hs.from_
    have sT := hs.to_
    clear hb3' hg hG hs
    have cL : ∀ p u w', Sl w' 3 encBk s.Free.A s.Free.n z.Free → Ans Tryd.prog 20 [.agg (encZ s).toArray, .int .i64 p, .int .i64 u] w' fun v _ => v = .int .i64 (idxOf (isOT p u) z.Free) := fun p u w' h => lowest_ans s z.Free p u w' h (by omega)
    repeat' (first | (show CW _ _ _ _ _ _; first | refine CW.seq ?_ | refine CW.region ?_ | refine CW.block ?_) | (show Post _ _ _ _ _; refine Post.seq ?_) | refine SW.nil ?_ | refine SW.pure rfl rfl ?_)
    obtain ⟨K, hK⟩ : ∃ K : Env → World → Prop, K = fun L' w' => ∃ i : Int, subEnv L' [(1, .int .i64 o), (2, .int .i64 t), (3, .pointer (some ⟨b3, 0, none⟩)), (6, .pointer (some ⟨b6, 0, none⟩)), (10, .int .i64 i)] ∧ Ext w w' ∧ Blk w' b3 25 (encZ s) ∧ Blk w' b6 25 (encZ .zero) ∧
     Own w' w.heap.size 55 3 encBk s.Free.A s.Free.n s.Free.c z.Free ∧ Own w' w.heap.size 3 1 encI s.Types.A s.Types.n s.Types.c z.Types ∧ ((i = -1 ∧ ∀ m, m < 5 → testN z.Free o t m = false) ∨ ∃ k : Nat, i = (k : Int) ∧ PickR z.Free o t (some (k, false))) := ⟨_, rfl⟩
    refine CW.cutb K ?_ ?_
    ·refine CW.loop (fun u : Nat × Int => [(1, .int .i64 o), (2, .int .i64 t), (3, .pointer (some ⟨b3, 0, none⟩)), (6, .pointer (some ⟨b6, 0, none⟩)), (10, .int .i64 u.2), (11, .int .i64 (o + (u.1 : Int)))])
      (fun u w' => Ext w w' ∧ Blk w' b3 25 (encZ s) ∧ Blk w' b6 25 (encZ .zero) ∧ Own w' w.heap.size 55 3 encBk s.Free.A s.Free.n s.Free.c z.Free ∧ Own w' w.heap.size 3 1 encI s.Types.A s.Types.n s.Types.c z.Types ∧
       ((u.2 = -1 ∧ (u.1 : Int) ≤ 5 - o ∧ ∀ m, m < u.1 → testN z.Free o t m = false) ∨ ∃ k : Nat, u.2 = (k : Int) ∧ PickR z.Free o t (some (k, false)))) (fun u => if u.2 < 0 then 7 - u.1 else 0) (0, -1)
      ⟨rfl, rfl, rfl, rfl, rfl, congrArg (fun z => some (Value.int .i64 z)) (by simp), trivial⟩ ⟨hw, hb3, hb6, hX, hT, .inl ⟨rfl, by simp only; omega, fun m h => by simp only at h; omega⟩⟩ ?_
     clear hw hb3 hb6 hX hT
     rintro ⟨j, i⟩ w' ⟨hw, hb3, hb6, hX, hT, hI⟩
     simp only at hI ⊢
     rcases hI with ⟨rfl, hj, hI⟩ | ⟨k, rfl, hP⟩
     ·by_cases hp : o + (j : Int) ≤ 4
      ·have hj5 : j < 5 := by omega
       have hto := test_own (l := z.Free) (o := o) (t := t) hj5 hp
       cases hany : z.Free.any (isOT (o + (j : Int)) t)
       ·have c2 := cL (o + (j : Int)) t
        rw [idx_miss hany] at c2
        repeat' (first | (show CW _ _ _ _ _ _; first | refine CW.seq ?_ | refine CW.region ?_ | refine CW.block ?_ | refine CW.condd_t rfl (by omega) ?_ | refine CW.skip ?_) | (show Post _ _ _ _ _; first | refine Post.seq ?_ | refine Post.blk ?_) | refine SW.nil ?_ | (show SW _ _ _ _ (⟨_, _, _, _, _, some _⟩ :: _) _ _; first | refine SW.want_t rfl rfl (by with_reducible rfl) ?_ | refine SW.splitd_t rfl rfl rfl (by omega) ?_) | refine SW.pure rfl rfl ?_ | (show SW _ _ _ _ (⟨_, Op.binOp _ _ _ _ _, _, _, _, none⟩ :: _) _ _; refine SW.st (st_add rfl rfl (by omega) (by omega)) rfl ?_) | (show SW _ _ _ _ (⟨_, Op.load _ _, _, _, _, none⟩ :: _) _ _; refine SW.st (st_loads rfl rfl ((fun _ _ => hb3.cell))) rfl ?_) | (show SW _ _ _ _ (⟨_, Op.call ⟨.value (.func _), _, _⟩, _, _, _, none⟩ :: _) _ _; (refine SW.call rfl rfl (c2 _ hX.sl) ?_; intro v w1 hw1 hv; subst hv; replace hw := Ext.trans hw hw1; replace hb3 := hb3.ext hw1; replace hb6 := hb6.ext hw1; replace hX := hX.ext hw1; replace hT := hT.ext hw1; clear hw1)))
        refine Post.again (j + 1, -1) ⟨rfl, rfl, rfl, rfl, rfl, congrArg (fun z => some (Value.int .i64 z)) (by simp only; omega), trivial⟩ (by simp only; (repeat' split) <;> omega) ⟨hw, hb3, hb6, hX, hT, .inl ⟨rfl, by simp only; omega, fun m h => ?_⟩⟩
        simp only at h
        by_cases e : m = j
        ·subst e; rw [hto, hany]
        ·exact hI m (by omega)
       ·obtain ⟨k, hk, hpk, hbk, hix⟩ := idx_hit hany
        have c2 := cL (o + (j : Int)) t
        rw [hix] at c2
        repeat' (first | (show CW _ _ _ _ _ _; first | refine CW.seq ?_ | refine CW.region ?_ | refine CW.block ?_ | refine CW.condd_t rfl (by omega) ?_ | refine CW.skip ?_) | (show Post _ _ _ _ _; first | refine Post.seq ?_ | refine Post.blk ?_) | refine SW.nil ?_ | (show SW _ _ _ _ (⟨_, _, _, _, _, some _⟩ :: _) _ _; first | refine SW.want_t rfl rfl (by with_reducible rfl) ?_ | refine SW.splitd_t rfl rfl rfl (by omega) ?_) | refine SW.pure rfl rfl ?_ | (show SW _ _ _ _ (⟨_, Op.binOp _ _ _ _ _, _, _, _, none⟩ :: _) _ _; refine SW.st (st_add rfl rfl (by omega) (by omega)) rfl ?_) | (show SW _ _ _ _ (⟨_, Op.load _ _, _, _, _, none⟩ :: _) _ _; refine SW.st (st_loads rfl rfl ((fun _ _ => hb3.cell))) rfl ?_) | (show SW _ _ _ _ (⟨_, Op.call ⟨.value (.func _), _, _⟩, _, _, _, none⟩ :: _) _ _; (refine SW.call rfl rfl (c2 _ hX.sl) ?_; intro v w1 hw1 hv; subst hv; replace hw := Ext.trans hw hw1; replace hb3 := hb3.ext hw1; replace hb6 := hb6.ext hw1; replace hX := hX.ext hw1; replace hT := hT.ext hw1; clear hw1)))
        have hP : PickR z.Free o t (some (k, false)) := by
         have := PickR.hit (l := z.Free) (o := o) (t := t) (n := j) (k := k) (by omega) (by rw [hto, hany]) hI hk (by rw [ord_own hj5, ty_own hj5]; exact hpk) (by rw [ord_own hj5, ty_own hj5]; exact hbk)
         rwa [decide_eq_false (by omega)] at this
        exact Post.again (j + 1, (k : Int)) ⟨rfl, rfl, rfl, rfl, rfl, congrArg (fun z => some (Value.int .i64 z)) (by simp only; omega), trivial⟩ (by simp only; (repeat' split) <;> omega) ⟨hw, hb3, hb6, hX, hT, .inr ⟨k, rfl, hP⟩⟩
      ·repeat' (first | (show CW _ _ _ _ _ _; first | refine CW.seq ?_ | refine CW.region ?_ | refine CW.condd_f rfl (by omega) ?_ | refine CW.exit ?_) | (show Post _ _ _ _ _; first | refine Post.seq ?_ | refine Post.seq_exit ?_ | refine Post.hit ?_ | refine Post.again_exit ?_) | refine SW.nil ?_ | (show SW _ _ _ _ (⟨_, _, _, _, _, some _⟩ :: _) _ _; first | refine SW.want_t rfl rfl (by with_reducible rfl) ?_ | refine SW.splitd_t rfl rfl rfl (by omega) ?_) | refine SW.pure rfl rfl ?_)
       have hT0 : ∀ m, m < 5 → testN z.Free o t m = false := fun m hm => by
        by_cases e : m < j
        ·exact hI m e
        ·exact test_off (by rw [ord_own hm]; omega)
       exact Post.cutn (K := K) (by rw [hK]; exact ⟨-1, ⟨rfl, rfl, rfl, rfl, rfl, trivial⟩, hw, hb3, hb6, hX, hT, .inl ⟨rfl, hT0⟩⟩)
     ·repeat' (first | (show CW _ _ _ _ _ _; first | refine CW.seq ?_ | refine CW.region ?_ | refine CW.condfr rfl (by with_reducible rfl) ?_ | refine CW.exit ?_) | (show Post _ _ _ _ _; first | refine Post.seq ?_ | refine Post.seq_exit ?_ | refine Post.hit ?_ | refine Post.again_exit ?_) | refine SW.nil ?_ | (show SW _ _ _ _ (⟨_, _, _, _, _, some _⟩ :: _) _ _; first | refine SW.skip_t rfl rfl (by with_reducible rfl) rfl ?_ | refine SW.splitd_f rfl rfl rfl (by omega) ?_) | refine SW.pure rfl rfl ?_)
      exact Post.cutn (K := K) (by rw [hK]; exact ⟨(k : Int), ⟨rfl, rfl, rfl, rfl, rfl, trivial⟩, hw, hb3, hb6, hX, hT, .inr ⟨k, rfl, hP⟩⟩)
    ·clear hw hb3 hb6 hX hT
     subst hK
     rintro L' w' ⟨i0, hsub, hw, hb3, hb6, hX, hT, hI0⟩
     refine Post.sub hsub ?_
     clear hsub
     obtain ⟨kt, hkt⟩ : ∃ kt : Nat, t = (kt : Int) := ⟨t.toNat, by omega⟩
     have hkt3 : kt < 3 := by omega
     have hrow := hO.row kt hkt3
     rw [← hkt] at hrow
     repeat' (first | (show CW _ _ _ _ _ _; first | refine CW.seq ?_ | refine CW.region ?_ | refine CW.block ?_) | (show Post _ _ _ _ _; refine Post.seq ?_) | refine SW.nil ?_ | refine SW.pure rfl rfl ?_)
     obtain ⟨K, hK⟩ : ∃ K : Env → World → Prop, K = fun L' w' => ∃ (i : Int) (F : List Block) (T : List Int), subEnv L' [(1, .int .i64 o), (2, .int .i64 t), (3, .pointer (some ⟨b3, 0, none⟩)), (6, .pointer (some ⟨b6, 0, none⟩)), (10, .int .i64 i)] ∧ Ext w w' ∧ Blk w' b3 25 (encZ s) ∧ Blk w' b6 25 (encZ .zero) ∧
      Own w' w.heap.size 55 3 encBk s.Free.A s.Free.n s.Free.c F ∧ Own w' w.heap.size 3 1 encI s.Types.A s.Types.n s.Types.c T ∧ ((i = -1 ∧ ∀ m, m < 15 → testN z.Free o t m = false) ∨ ∃ (k : Nat) (st : Bool) (hk : k < z.Free.length), i = (k : Int) ∧ PickR z.Free o t (some (k, st)) ∧ F = takeF z z.Free[k] t st ∧ T = if st = true then stTypes z z.Free[k] t else z.Types) := ⟨_, rfl⟩
     refine CW.cutb K ?_ ?_
     ·refine CW.loop (fun u : Nat × Int × List Block × List Int => [(1, .int .i64 o), (2, .int .i64 t), (3, .pointer (some ⟨b3, 0, none⟩)), (6, .pointer (some ⟨b6, 0, none⟩)), (10, .int .i64 u.2.1), (12, .int .i64 (4 - (u.1 : Int)))])
       (fun u w' => Ext w w' ∧ Blk w' b3 25 (encZ s) ∧ Blk w' b6 25 (encZ .zero) ∧ Own w' w.heap.size 55 3 encBk s.Free.A s.Free.n s.Free.c u.2.2.1 ∧ Own w' w.heap.size 3 1 encI s.Types.A s.Types.n s.Types.c u.2.2.2 ∧
        ((u.2.1 = -1 ∧ (u.1 : Int) ≤ 5 - o ∧ (∀ m, m < 5 + 2 * u.1 → testN z.Free o t m = false) ∧ u.2.2.1 = z.Free ∧ u.2.2.2 = z.Types) ∨ ∃ (k : Nat) (st : Bool) (hk : k < z.Free.length), u.2.1 = (k : Int) ∧ PickR z.Free o t (some (k, st)) ∧ u.2.2.1 = takeF z z.Free[k] t st ∧ u.2.2.2 = if st = true then stTypes z z.Free[k] t else z.Types)) (fun u => if u.2.1 < 0 then 7 - u.1 else 0) (0, i0, z.Free, z.Types)
       ⟨rfl, rfl, rfl, rfl, rfl, rfl, trivial⟩ ⟨hw, hb3, hb6, hX, hT, ?_⟩ ?_
      ·rcases hI0 with ⟨rfl, hI0⟩ | ⟨k, rfl, hP⟩
       ·exact .inl ⟨rfl, by simp only; omega, fun m h => hI0 m (by simp only at h; omega), rfl, rfl⟩
       ·obtain ⟨hk, _⟩ := hP.ord
        exact .inr ⟨k, false, hk, rfl, hP, rfl, rfl⟩
      clear hw hb3 hb6 hX hT hI0
      rintro ⟨j, i, F, T⟩ w' ⟨hw, hb3, hb6, hX, hT, hI⟩
      simp only at hX hT hI ⊢
      rcases hI with ⟨rfl, hj, hI, rfl, rfl⟩ | ⟨k, st, hk, rfl, hP, hF, hTT⟩
      ·by_cases hp : o ≤ 4 - (j : Int)
       ·have ht1 := test_fst (l := z.Free) (t := t) hp
        have ht2 := test_snd (l := z.Free) (t := t) hp
        repeat' (first | (show CW _ _ _ _ _ _; first | refine CW.seq ?_ | refine CW.region ?_ | refine CW.block ?_ | refine CW.condd_t rfl (by omega) ?_ | refine CW.skip ?_) | (show Post _ _ _ _ _; refine Post.seq ?_) | refine SW.nil ?_ | (show SW _ _ _ _ (⟨_, _, _, _, _, some _⟩ :: _) _ _; first | refine SW.want_t rfl rfl (by with_reducible rfl) ?_ | refine SW.splitd_t rfl rfl rfl (by omega) ?_) | refine SW.pure rfl rfl ?_ | (show SW _ _ _ _ (⟨_, Op.load _ _, _, _, _, none⟩ :: _) _ _; refine SW.st (st_loadsx hw rfl rfl hrow) rfl ?_) | (refine SW.st (st_indexArr kt rfl rfl hkt hkt3) rfl ?_))
        refine CW.loop (fun v : Nat => [(1, .int .i64 o), (2, .int .i64 t), (3, .pointer (some ⟨b3, 0, none⟩)), (6, .pointer (some ⟨b6, 0, none⟩)), (10, .int .i64 (-1)), (12, .int .i64 (4 - (j : Int))), (65, .agg [Value.int .i64 (oth1 t), Value.int .i64 (oth2 t)].toArray), (66, .int .i64 (v : Int))])
         (fun v w' => v ≤ 2 ∧ Ext w w' ∧ Blk w' b3 25 (encZ s) ∧ Blk w' b6 25 (encZ .zero) ∧ Own w' w.heap.size 55 3 encBk s.Free.A s.Free.n s.Free.c z.Free ∧ Own w' w.heap.size 3 1 encI s.Types.A s.Types.n s.Types.c z.Types ∧ ∀ m, m < 5 + 2 * j + v → testN z.Free o t m = false)
         (fun v => 2 - v) 0 ⟨rfl, rfl, rfl, rfl, rfl, rfl, rfl, rfl, trivial⟩ ⟨by omega, hw, hb3, hb6, hX, hT, hI⟩ ?_
        clear hw hb3 hb6 hX hT hI
        rintro v w' ⟨hv2, hw, hb3, hb6, hX, hT, hI⟩
        rcases (show v = 0 ∨ v = 1 ∨ v = 2 by omega) with rfl | rfl | rfl
        ·cases hany : z.Free.any (isOT (4 - (j : Int)) (oth1 t))
         ·have c2 := cL (4 - (j : Int)) (oth1 t)
          rw [idx_miss hany] at c2
          repeat' (first | (show CW _ _ _ _ _ _; first | refine CW.seq ?_ | refine CW.region ?_ | refine CW.block ?_ | refine CW.condd_t rfl (by omega) ?_ | refine CW.condd_f rfl (by omega) ?_ | refine CW.skip ?_) | (show Post _ _ _ _ _; first | refine Post.seq ?_ | refine Post.blk ?_) | refine SW.nil ?_ | refine SW.pure rfl rfl ?_ | (show SW _ _ _ _ (⟨_, Op.binOp _ _ _ _ _, _, _, _, none⟩ :: _) _ _; refine SW.st (st_add rfl rfl (by omega) (by omega)) rfl ?_) | (show SW _ _ _ _ (⟨_, Op.load _ _, _, _, _, none⟩ :: _) _ _; refine SW.st (st_loads rfl rfl ((fun _ _ => hb3.cell))) rfl ?_) | (show SW _ _ _ _ (⟨_, Op.call ⟨.value (.func _), _, _⟩, _, _, _, none⟩ :: _) _ _; (refine SW.call rfl rfl (c2 _ hX.sl) ?_; intro v w1 hw1 hv; subst hv; replace hw := Ext.trans hw hw1; replace hb3 := hb3.ext hw1; replace hb6 := hb6.ext hw1; replace hX := hX.ext hw1; replace hT := hT.ext hw1; clear hw1)) | (refine SW.st (st_idxA 0 rfl rfl rfl (by decide) rfl) rfl ?_))
          refine Post.again (0 + 1) ⟨rfl, rfl, rfl, rfl, rfl, rfl, rfl, rfl, trivial⟩ (by omega) ⟨by omega, hw, hb3, hb6, hX, hT, fun m h => ?_⟩
          by_cases e : m = 5 + 2 * j + 0
          ·subst e; exact ht1.trans hany
          ·exact hI m (by omega)
         ·obtain ⟨k, hk, hpk, hbk, hix⟩ := idx_hit hany
          have c2 := cL (4 - (j : Int)) (oth1 t)
          rw [hix] at c2
          repeat' (first | (show CW _ _ _ _ _ _; first | refine CW.seq ?_ | refine CW.region ?_ | refine CW.block ?_ | refine CW.condd_t rfl (by omega) ?_ | refine CW.skip ?_) | (show Post _ _ _ _ _; refine Post.seq ?_) | refine SW.nil ?_ | refine SW.pure rfl rfl ?_ | (show SW _ _ _ _ (⟨_, Op.load _ _, _, _, _, none⟩ :: _) _ _; refine SW.st (st_loads rfl rfl ((fun _ _ => hb3.cell))) rfl ?_) | (show SW _ _ _ _ (⟨_, Op.call ⟨.value (.func _), _, _⟩, _, _, _, none⟩ :: _) _ _; (refine SW.call rfl rfl (c2 _ hX.sl) ?_; intro v w1 hw1 hv; subst hv; replace hw := Ext.trans hw hw1; replace hb3 := hb3.ext hw1; replace hb6 := hb6.ext hw1; replace hX := hX.ext hw1; replace hT := hT.ext hw1; clear hw1)) | (refine SW.st (st_idxA 0 rfl rfl rfl (by decide) rfl) rfl ?_))
          refine SW.callX rfl rfl (steal_ans s z k t w _ hw hX hT sF hz hk (by omega)) fun v w5 hv => ?_
          obtain ⟨hw, hKp, hX, hT⟩ := hv
          replace hb3 := hKp.out _ _ hb3
          replace hb6 := hKp.out _ _ hb6
          have hP : PickR z.Free o t (some (k, true)) := by
           have := PickR.hit (l := z.Free) (o := o) (t := t) (n := 5 + 2 * j + 0) (k := k) (by omega) (ht1.trans hany) hI hk (by have e1 := ord_fst (o := o) (j := j); have e2 := ty_fst (t := t) (j := j); (try simp only [Nat.add_zero] at *); rw [e1, e2]; exact hpk) (by have e1 := ord_fst (o := o) (j := j); have e2 := ty_fst (t := t) (j := j); (try simp only [Nat.add_zero] at *); rw [e1, e2]; exact hbk)
           rwa [decide_eq_true (by omega)] at this
          repeat' (first | (show CW _ _ _ _ _ _; first | refine CW.region ?_ | refine CW.exit ?_) | (show Post _ _ _ _ _; first | refine Post.seq ?_ | refine Post.seq_exit ?_ | refine Post.hit ?_ | refine Post.pass rfl ?_ | refine Post.blk ?_ | refine Post.again_exit ?_) | refine SW.nil ?_ | refine SW.pure rfl rfl ?_ | (show SW _ _ _ _ (⟨_, Op.binOp _ _ _ _ _, _, _, _, none⟩ :: _) _ _; refine SW.st (st_sub rfl rfl (by omega) (by omega)) rfl ?_))
          exact Post.again (j + 1, (k : Int), stFree z.Free z.Free[k] t, stTypes z z.Free[k] t) ⟨rfl, rfl, rfl, rfl, rfl, congrArg (fun z => some (Value.int .i64 z)) (by simp only; omega), trivial⟩ (by simp only; (repeat' split) <;> omega) ⟨hw, hb3, hb6, hX, hT, .inr ⟨k, true, hk, rfl, hP, rfl, rfl⟩⟩
        ·cases hany : z.Free.any (isOT (4 - (j : Int)) (oth2 t))
         ·have c2 := cL (4 - (j : Int)) (oth2 t)
          rw [idx_miss hany] at c2
          repeat' (first | (show CW _ _ _ _ _ _; first | refine CW.seq ?_ | refine CW.region ?_ | refine CW.block ?_ | refine CW.condd_t rfl (by omega) ?_ | refine CW.condd_f rfl (by omega) ?_ | refine CW.skip ?_) | (show Post _ _ _ _ _; first | refine Post.seq ?_ | refine Post.blk ?_) | refine SW.nil ?_ | refine SW.pure rfl rfl ?_ | (show SW _ _ _ _ (⟨_, Op.binOp _ _ _ _ _, _, _, _, none⟩ :: _) _ _; refine SW.st (st_add rfl rfl (by omega) (by omega)) rfl ?_) | (show SW _ _ _ _ (⟨_, Op.load _ _, _, _, _, none⟩ :: _) _ _; refine SW.st (st_loads rfl rfl ((fun _ _ => hb3.cell))) rfl ?_) | (show SW _ _ _ _ (⟨_, Op.call ⟨.value (.func _), _, _⟩, _, _, _, none⟩ :: _) _ _; (refine SW.call rfl rfl (c2 _ hX.sl) ?_; intro v w1 hw1 hv; subst hv; replace hw := Ext.trans hw hw1; replace hb3 := hb3.ext hw1; replace hb6 := hb6.ext hw1; replace hX := hX.ext hw1; replace hT := hT.ext hw1; clear hw1)) | (refine SW.st (st_idxA 1 rfl rfl rfl (by decide) rfl) rfl ?_))
          refine Post.again (1 + 1) ⟨rfl, rfl, rfl, rfl, rfl, rfl, rfl, rfl, trivial⟩ (by omega) ⟨by omega, hw, hb3, hb6, hX, hT, fun m h => ?_⟩
          by_cases e : m = 5 + 2 * j + 1
          ·subst e; exact ht2.trans hany
          ·exact hI m (by omega)
         ·obtain ⟨k, hk, hpk, hbk, hix⟩ := idx_hit hany
          have c2 := cL (4 - (j : Int)) (oth2 t)
          rw [hix] at c2
          repeat' (first | (show CW _ _ _ _ _ _; first | refine CW.seq ?_ | refine CW.region ?_ | refine CW.block ?_ | refine CW.condd_t rfl (by omega) ?_ | refine CW.skip ?_) | (show Post _ _ _ _ _; refine Post.seq ?_) | refine SW.nil ?_ | refine SW.pure rfl rfl ?_ | (show SW _ _ _ _ (⟨_, Op.load _ _, _, _, _, none⟩ :: _) _ _; refine SW.st (st_loads rfl rfl ((fun _ _ => hb3.cell))) rfl ?_) | (show SW _ _ _ _ (⟨_, Op.call ⟨.value (.func _), _, _⟩, _, _, _, none⟩ :: _) _ _; (refine SW.call rfl rfl (c2 _ hX.sl) ?_; intro v w1 hw1 hv; subst hv; replace hw := Ext.trans hw hw1; replace hb3 := hb3.ext hw1; replace hb6 := hb6.ext hw1; replace hX := hX.ext hw1; replace hT := hT.ext hw1; clear hw1)) | (refine SW.st (st_idxA 1 rfl rfl rfl (by decide) rfl) rfl ?_))
          refine SW.callX rfl rfl (steal_ans s z k t w _ hw hX hT sF hz hk (by omega)) fun v w5 hv => ?_
          obtain ⟨hw, hKp, hX, hT⟩ := hv
          replace hb3 := hKp.out _ _ hb3
          replace hb6 := hKp.out _ _ hb6
          have hP : PickR z.Free o t (some (k, true)) := by
           have := PickR.hit (l := z.Free) (o := o) (t := t) (n := 5 + 2 * j + 1) (k := k) (by omega) (ht2.trans hany) hI hk (by have e1 := ord_snd (o := o) (j := j); have e2 := ty_snd (t := t) (j := j); (try simp only [Nat.add_zero] at *); rw [e1, e2]; exact hpk) (by have e1 := ord_snd (o := o) (j := j); have e2 := ty_snd (t := t) (j := j); (try simp only [Nat.add_zero] at *); rw [e1, e2]; exact hbk)
           rwa [decide_eq_true (by omega)] at this
          repeat' (first | (show CW _ _ _ _ _ _; first | refine CW.region ?_ | refine CW.exit ?_) | (show Post _ _ _ _ _; first | refine Post.seq ?_ | refine Post.seq_exit ?_ | refine Post.hit ?_ | refine Post.pass rfl ?_ | refine Post.blk ?_ | refine Post.again_exit ?_) | refine SW.nil ?_ | refine SW.pure rfl rfl ?_ | (show SW _ _ _ _ (⟨_, Op.binOp _ _ _ _ _, _, _, _, none⟩ :: _) _ _; refine SW.st (st_sub rfl rfl (by omega) (by omega)) rfl ?_))
          exact Post.again (j + 1, (k : Int), stFree z.Free z.Free[k] t, stTypes z z.Free[k] t) ⟨rfl, rfl, rfl, rfl, rfl, congrArg (fun z => some (Value.int .i64 z)) (by simp only; omega), trivial⟩ (by simp only; (repeat' split) <;> omega) ⟨hw, hb3, hb6, hX, hT, .inr ⟨k, true, hk, rfl, hP, rfl, rfl⟩⟩
        ·repeat' (first | (show CW _ _ _ _ _ _; first | refine CW.seq ?_ | refine CW.region ?_ | refine CW.condd_f rfl (by omega) ?_ | refine CW.exit ?_) | (show Post _ _ _ _ _; first | refine Post.seq ?_ | refine Post.seq_exit ?_ | refine Post.hit ?_ | refine Post.blk ?_ | refine Post.again_exit ?_) | refine SW.nil ?_ | refine SW.pure rfl rfl ?_ | (show SW _ _ _ _ (⟨_, Op.binOp _ _ _ _ _, _, _, _, none⟩ :: _) _ _; refine SW.st (st_sub rfl rfl (by omega) (by omega)) rfl ?_))
         exact Post.again (j + 1, -1, z.Free, z.Types) ⟨rfl, rfl, rfl, rfl, rfl, congrArg (fun z => some (Value.int .i64 z)) (by simp only; omega), trivial⟩ (by simp only; (repeat' split) <;> omega) ⟨hw, hb3, hb6, hX, hT, .inl ⟨rfl, by simp only; omega, fun m h => hI m (by simp only at h; omega), rfl, rfl⟩⟩
       ·repeat' (first | (show CW _ _ _ _ _ _; first | refine CW.seq ?_ | refine CW.region ?_ | refine CW.condd_f rfl (by omega) ?_ | refine CW.exit ?_) | (show Post _ _ _ _ _; first | refine Post.seq ?_ | refine Post.seq_exit ?_ | refine Post.hit ?_ | refine Post.again_exit ?_) | refine SW.nil ?_ | (show SW _ _ _ _ (⟨_, _, _, _, _, some _⟩ :: _) _ _; first | refine SW.want_t rfl rfl (by with_reducible rfl) ?_ | refine SW.splitd_t rfl rfl rfl (by omega) ?_) | refine SW.pure rfl rfl ?_)
        have hT0 : ∀ m, m < 15 → testN z.Free o t m = false := fun m hm => by
         by_cases e : m < 5 + 2 * j
         ·exact hI m e
         ·exact test_low (j := j) (by omega) (by omega)
        exact Post.cutn (K := K) (by rw [hK]; exact ⟨-1, z.Free, z.Types, ⟨rfl, rfl, rfl, rfl, rfl, trivial⟩, hw, hb3, hb6, hX, hT, .inl ⟨rfl, hT0⟩⟩)
      ·repeat' (first | (show CW _ _ _ _ _ _; first | refine CW.seq ?_ | refine CW.region ?_ | refine CW.condfr rfl (by with_reducible rfl) ?_ | refine CW.exit ?_) | (show Post _ _ _ _ _; first | refine Post.seq ?_ | refine Post.seq_exit ?_ | refine Post.hit ?_ | refine Post.again_exit ?_) | refine SW.nil ?_ | (show SW _ _ _ _ (⟨_, _, _, _, _, some _⟩ :: _) _ _; first | refine SW.skip_t rfl rfl (by with_reducible rfl) rfl ?_ | refine SW.splitd_f rfl rfl rfl (by omega) ?_) | refine SW.pure rfl rfl ?_)
       exact Post.cutn (K := K) (by rw [hK]; exact ⟨(k : Int), F, T, ⟨rfl, rfl, rfl, rfl, rfl, trivial⟩, hw, hb3, hb6, hX, hT, .inr ⟨k, st, hk, rfl, hP, hF, hTT⟩⟩)
     ·clear hw hb3 hb6 hX hT hI0
      subst hK
      rintro L' w' ⟨i, F, T, hsub, hw, hb3, hb6, hX, hT, hI⟩
      refine Post.sub hsub ?_
      clear hsub cL
      rcases hI with ⟨rfl, hI⟩ | ⟨k, st, hk, rfl, hP, rfl, hTT⟩
      ·repeat' (first | (show CW _ _ _ _ _ _; first | refine CW.seq ?_ | refine CW.region ?_ | refine CW.condd_t rfl (by omega) ?_) | (show Post _ _ _ _ _; refine Post.seq ?_) | refine SW.nil ?_ | refine SW.pure rfl rfl ?_ | (show SW _ _ _ _ (⟨_, Op.build _ _, _, _, _, none⟩ :: _) _ _; refine SW.st (st_build rfl rfl) rfl ?_))
       refine SW.storeAgg hb6 rfl rfl rfl rfl (one_z .zero) fun w5 hR2 hg => ?_
       replace hw := hw.own hb6w hg
       repeat' (first | (show CW _ _ _ _ _ _; refine CW.ret ?_) | (show Post _ _ _ _ _; first | refine Post.seq ?_ | refine Post.seq_ret ?_) | refine SW.nil ?_ | refine SW.pure rfl rfl ?_)
       exact Post.ret3c rfl rfl rfl rfl hR2 rfl ⟨_, rfl, hw, _, .room hq ho hty (.miss hI), TakeOut.zero 6 _ _⟩
      ·obtain ⟨_, po1, po2⟩ := hP.ord
       obtain ⟨l1, l2, l3⟩ := takeF_ok hz (b := z.Free[k]) hty st
       have hkF : k < (takeF z z.Free[k] t st).length := by omega
       have hFk : (takeF z z.Free[k] t st)[k] = ⟨z.Free[k].At, z.Free[k].Order, tySt z t st z.Free[k]⟩ := takeF_get hz hty st hk
       obtain ⟨⟨f1, f2, f3, f4, f5⟩, f6⟩ := hz.blk k hk
       have hok : TakeR z o t (takenZ z o t z.Free[k] k st, z.Free[k].At, 0) := .ok hq ho hty hk hP
       have hJ := jok_erase l2 l3 hkF
       rw [hFk] at hJ
       have hzl := zone_len hz
       have htt : tyOk (tySt z t st z.Free[k]) := by unfold tySt; split <;> assumption
       obtain ⟨ty, hte⟩ : ∃ ty, tySt z t st z.Free[k] = ty := ⟨_, rfl⟩
       have hTZ : takenZ z o t z.Free[k] k st = ⟨z.From, z.To, splitL ty z.Free[k].At (z.Free[k].Order - o).toNat z.Free[k].Order ((takeF z z.Free[k] t st).eraseIdx k), T⟩ := by
        rw [hTT, ← hte]; rfl
       rw [hTZ] at hok
       rw [hte] at hFk htt
       clear hTZ hte hTT hP
       obtain ⟨F, hF⟩ : ∃ F, takeF z z.Free[k] t st = F := ⟨_, rfl⟩
       simp only [hF] at hX l1 hkF hFk hJ hok
       clear l2 l3
       obtain ⟨x, hx⟩ : ∃ x, z.Free[k] = x := ⟨_, rfl⟩
       simp only [hx] at hFk hJ hok f1 f2 f3 f4 f5 po1 po2
       clear f6
       have hkn : k < s.Free.n := by omega
       have hA := hX.sl.base
       have hall := hX.sl.all hkn
       simp only [hFk] at hall
       repeat' (first | (show CW _ _ _ _ _ _; first | refine CW.seq ?_ | refine CW.region ?_ | refine CW.condd_f rfl (by omega) ?_ | refine CW.skip ?_) | (show Post _ _ _ _ _; refine Post.seq ?_) | refine SW.nil ?_ | refine SW.pure rfl rfl ?_ | (show SW _ _ _ _ (⟨_, Op.fieldAddr _ _ _, _, _, _, none⟩ :: _) _ _; refine SW.st (st_field rfl) rfl ?_) | (show SW _ _ _ _ (⟨_, Op.indexAddr _ _ _, _, _, _, none⟩ :: _) _ _; refine SW.st (st_indexN rfl rfl (by assumption) (by omega)) rfl ?_) | (show SW _ _ _ _ (⟨_, Op.load _ _, _, _, _, none⟩ :: _) _ _; first | refine SW.st (st_load rfl (hb3.cell (i := 2) (v := .slice s.Free.A s.Free.n s.Free.c) rfl)) rfl ?_ | refine SW.st (st_loads rfl rfl hall) rfl ?_))
       refine SW.alloc rfl fun b15 w3 hw3 h15b hb15 => ?_
       have h15w : w.heap.size ≤ b15 := Nat.le_trans hw.size h15b
       have hne15 : ownB s.Free.A s.Free.c ≠ some b15 := fun e => by have := hX.lt_size _ e; omega
       (replace hw := Ext.trans hw hw3; replace hb3 := hb3.ext hw3; replace hb6 := hb6.ext hw3; replace hX := hX.ext hw3; replace hT := hT.ext hw3)
       clear hall
       skip
       refine SW.storeAgg hb15 rfl rfl rfl rfl (Enc.one (enc := encBk) ⟨x.At, x.Order, ty⟩) fun w5 hb15' hg => ?_
       have hG := hb15.gr hg
       replace hw := hw.own h15w hg
       replace hX := hX.grown hg (.inr hne15)
       (replace hb3 := hb3.grT hG rfl; replace hb6 := hb6.grT hG rfl; replace hT := hT.grT hG rfl)
       replace hb15 : Blk w5 b15 55 [.int .i64 x.At, .int .i64 x.Order, .int .i64 ty] := hb15'
       clear hb15' hg hG h15b
       repeat' (first | (show CW _ _ _ _ _ _; first | refine CW.seq ?_ | refine CW.region ?_) | (show Post _ _ _ _ _; refine Post.seq ?_) | refine SW.nil ?_ | refine SW.pure rfl rfl ?_ | (show SW _ _ _ _ (⟨_, Op.fieldAddr _ _ _, _, _, _, none⟩ :: _) _ _; refine SW.st (st_field rfl) rfl ?_) | (show SW _ _ _ _ (⟨_, Op.binOp _ _ _ _ _, _, _, _, none⟩ :: _) _ _; refine SW.st (st_add rfl rfl (by omega) (by omega)) rfl ?_) | (show SW _ _ _ _ (⟨_, Op.load _ _, _, _, _, none⟩ :: _) _ _; refine SW.st (st_load rfl (hb3.cell (i := 2) (v := .slice s.Free.A s.Free.n s.Free.c) rfl)) rfl ?_))
       refine SW.callX rfl rfl (DeleteBlock_ans s.Free.A s.Free.n s.Free.c w.heap.size F _ hX k hkn (by omega) hw.size) fun v w6 hv => ?_
       obtain ⟨rfl, hX', hg⟩ := hv
       have hG := hX.gr hg
       replace hw := ext_grown hw hg (Nat.le_refl _) hX.row_ge
       replace hb15 := hb15.grown hg (fun e => hne15 e.symm)
       (replace hb3 := hb3.grT hG rfl; replace hb6 := hb6.grT hG rfl; replace hT := hT.grT hG rfl)
       clear hg hG
       have hl1 : s.Free.n - 1 = (F.eraseIdx k).length := by rw [List.length_eraseIdx_of_lt hkF]; omega
       rw [hl1] at hX'
       rw [hl1]
       repeat' ((show SW _ _ _ _ (⟨_, Op.fieldAddr _ _ _, _, _, _, none⟩ :: _) _ _; refine SW.st (st_field rfl) rfl ?_))
       refine SW.storeB (i := 2) hb3 rfl rfl rfl rfl fun w7 hb3' hg => ?_
       have hG := hb3.gr hg
       replace hw := hw.own hb3b hg
       replace hb6 := hb6.grown hg (by simpa using hne36.symm)
       (replace hb15 := hb15.grT hG rfl; replace hX' := hX'.grT hG rfl; replace hT := hT.grT hG rfl)
       replace hb3 : Blk w7 b3 25 [.int .i64 s.From, .int .i64 s.To, .slice s.Free.A (F.eraseIdx k).length s.Free.c, .slice s.Types.A s.Types.n s.Types.c] := hb3'
       clear hb3' hg hG hX
       repeat' (first | (show CW _ _ _ _ _ _; first | refine CW.seq ?_ | refine CW.block ?_) | (show Post _ _ _ _ _; refine Post.seq ?_) | refine SW.nil ?_)
       obtain ⟨FIN, hFIN⟩ : ∃ FIN, splitL ty x.At (x.Order - o).toNat x.Order (F.eraseIdx k) = FIN := ⟨_, rfl⟩
       rw [hFIN] at hok
       refine CW.loop (fun u : Int × List Block × Option Addr × Nat => [(1, .int .i64 o), (3, .pointer (some ⟨b3, 0, none⟩)), (6, .pointer (some ⟨b6, 0, none⟩)), (15, .pointer (some ⟨b15, 0, none⟩))])
        (fun u w' => Ext w w' ∧ Blk w' b3 25 [.int .i64 s.From, .int .i64 s.To, .slice u.2.2.1 u.2.1.length u.2.2.2, .slice s.Types.A s.Types.n s.Types.c] ∧ Blk w' b6 25 (encZ .zero) ∧ Blk w' b15 55 [.int .i64 x.At, .int .i64 u.1, .int .i64 ty] ∧
         Own w' w.heap.size 55 3 encBk u.2.2.1 u.2.1.length u.2.2.2 u.2.1 ∧ Own w' w.heap.size 3 1 encI s.Types.A s.Types.n s.Types.c T ∧ JOk z.From z.To u.2.1 x.At u.1 ∧ o ≤ u.1 ∧ splitL ty x.At (u.1 - o).toNat u.1 u.2.1 = FIN ∧ (u.2.1.length : Int) + u.1 ≤ 300 ∧ ownB u.2.2.1 u.2.2.2 ≠ some b15) (fun u => (u.1 - o).toNat) (x.Order, F.eraseIdx k, s.Free.A, s.Free.c)
        ⟨rfl, rfl, rfl, rfl, trivial⟩ ⟨hw, hb3, hb6, hb15, hX', hT, hJ, po1, hFIN, by simp only; omega, hne15⟩ ?_
       clear hw hb3 hb6 hb15 hX' hT hJ hl1 hFk hne15
       rintro ⟨q, l, A, c⟩ w' ⟨hw, hb3, hb6, hb15, hX, hT, hJ, hqo, hfin, hlen, hne⟩
       simp only at hb3 hb15 hX hJ hqo hfin hlen hne ⊢
       by_cases hqq : o < q
       ·obtain ⟨k1, k2, k3, k4, k5⟩ := hJ.fit
        obtain ⟨hJ2, hnea⟩ := jok_half hJ o1 o3 o5 (by omega) htt
        rw [show (q - o).toNat = (q - 1 - o).toNat + 1 by omega, splitL] at hfin
        have hp1 := pw_le (o := q - 1) (by omega) (by omega)
        have cE : ∀ w', Ans Tryd.prog 23 [.agg (encBk ⟨x.At, q - 1, ty⟩).toArray] w' fun v _ => v = .int .i64 (x.At + pw (q - 1)) := fun w' => Zend_ans ⟨x.At, q - 1, ty⟩ w' ⟨by simp only; omega, by simp only; omega⟩ ⟨by simp only; omega, by simp only; omega⟩
        have cF : ∀ w', Sl w' 3 encBk A l.length l → Ans Tryd.prog 24 [.agg (encZ ⟨s.From, s.To, ⟨A, l.length, c⟩, s.Types⟩).toArray, .int .i64 (x.At + pw (q - 1))] w' fun v _ => v = .tuple #[.int .i64 (lbOf l (x.At + pw (q - 1)) : Int), .bool (foundA l (x.At + pw (q - 1)))] := fun w' h =>
         Zfind_ans ⟨s.From, s.To, ⟨A, l.length, c⟩, s.Types⟩ l z.From z.To (x.At + pw (q - 1)) w' h hJ.ups hJ.blk o1 (by omega) (by simp only; omega) ⟨by omega, by omega⟩
        have hlb := lb_le l (x.At + pw (q - 1))
        have hhl := halfL_len ty x.At q l
        repeat' (first | (show CW _ _ _ _ _ _; first | refine CW.seq ?_ | refine CW.region ?_ | refine CW.block ?_ | refine CW.condd_t rfl (by omega) ?_ | refine CW.skip ?_) | (show Post _ _ _ _ _; refine Post.seq ?_) | refine SW.nil ?_ | refine SW.pure rfl rfl ?_ | (show SW _ _ _ _ (⟨_, Op.fieldAddr _ _ _, _, _, _, none⟩ :: _) _ _; refine SW.st (st_field rfl) rfl ?_) | (show SW _ _ _ _ (⟨_, Op.binOp _ _ _ _ _, _, _, _, none⟩ :: _) _ _; refine SW.st (st_sub rfl rfl (by omega) (by omega)) rfl ?_) | (show SW _ _ _ _ (⟨_, Op.load _ _, _, _, _, none⟩ :: _) _ _; refine SW.st (st_load rfl (hb15.cell (i := 1) (v := .int .i64 q) rfl)) rfl ?_))
        refine SW.storeB (i := 1) hb15 rfl rfl rfl rfl fun w5 hb15' hg => ?_
        have hG := hb15.gr hg
        replace hw := hw.own h15w hg
        replace hX := hX.grown hg (.inr hne)
        (replace hb3 := hb3.grT hG rfl; replace hb6 := hb6.grT hG rfl; replace hT := hT.grT hG rfl)
        replace hb15 : Blk w5 b15 55 [.int .i64 x.At, .int .i64 (q - 1), .int .i64 ty] := hb15'
        clear hb15' hg hG
        repeat' (first | (show CW _ _ _ _ _ _; refine CW.seq ?_) | (show Post _ _ _ _ _; refine Post.seq ?_) | refine SW.nil ?_)
        refine CW.any 8 mixed (rb_tail (by kernel_rfl)) rfl fun w1 hw1 hRB => ?_
        replace hw := Ext.trans hw hw1; replace hb3 := hb3.ext hw1; replace hb6 := hb6.ext hw1; replace hb15 := hb15.ext hw1; replace hX := hX.ext hw1; replace hT := hT.ext hw1; clear hw1
        refine SA.take 0 hRB rfl (by kernel_rfl) (by kernel_rfl) rfl ?_
        repeat ((show SW _ _ _ _ (⟨_, Op.load _ _, _, _, _, none⟩ :: _) _ _; refine SW.st (st_loads rfl rfl ((fun _ _ => hb15.cell))) rfl ?_))
        refine SW.tknil ?_
        refine SA.take 2 hRB rfl (by kernel_rfl) (by kernel_rfl) rfl ?_
        repeat ((show SW _ _ _ _ (⟨_, Op.fieldAddr _ _ _, _, _, _, none⟩ :: _) _ _; refine SW.st (st_field rfl) rfl ?_))
        refine SW.tknil ?_
        refine SA.take 3 hRB rfl (by kernel_rfl) (by kernel_rfl) rfl ?_
        repeat ((show SW _ _ _ _ (⟨_, Op.load _ _, _, _, _, none⟩ :: _) _ _; refine SW.st (st_load rfl (hb15.cell (i := 1) (v := .int .i64 (q - 1)) rfl)) rfl ?_))
        refine SW.tknil ?_
        refine SA.take 4 hRB rfl (by kernel_rfl) (by kernel_rfl) rfl ?_
        repeat ((show SW _ _ _ _ (⟨_, Op.fieldAddr _ _ _, _, _, _, none⟩ :: _) _ _; refine SW.st (st_field rfl) rfl ?_))
        refine SW.tknil ?_
        refine SA.take 5 hRB rfl (by kernel_rfl) (by kernel_rfl) rfl ?_
        repeat ((show SW _ _ _ _ (⟨_, Op.load _ _, _, _, _, none⟩ :: _) _ _; refine SW.st (st_load rfl (hb15.cell (i := 2) (v := .int .i64 ty) rfl)) rfl ?_))
        refine SW.tknil ?_
        refine SA.two 1 7 rfl rfl (by kernel_rfl) rfl rfl ?_ ?_
        ·refine SW.call rfl rfl (cE _) fun v w4 hXX hv => ?_
         subst hv
         (replace hw := Ext.trans hw hXX; replace hb3 := hb3.ext hXX; replace hb6 := hb6.ext hXX; replace hb15 := hb15.ext hXX; replace hX := hX.ext hXX; replace hT := hT.ext hXX)
         try replace hb16 := hb16.ext hXX
         refine SW.nil (Post.sa hXX ?_)
         refine SA.take 6 hRB rfl (by kernel_rfl) (by kernel_rfl) rfl ?_
         repeat ((show SW _ _ _ _ (⟨_, Op.build _ _, _, _, _, none⟩ :: _) _ _; refine SW.st (st_build rfl rfl) rfl ?_))
         refine SW.tknil ?_
         refine SA.one 7 rfl (by kernel_rfl) rfl ?_
         refine SW.alloc rfl fun b16 w4 hXX h16b hb16 => ?_
         have h16w : w.heap.size ≤ b16 := Nat.le_trans hw.size h16b
         have hn16 : ownB A c ≠ some b16 := fun e => by have := hX.lt_size _ e; omega
         have hn15 : b15 ≠ b16 := by have := hb15.lt; omega
         (replace hw := Ext.trans hw hXX; replace hb3 := hb3.ext hXX; replace hb6 := hb6.ext hXX; replace hb15 := hb15.ext hXX; replace hX := hX.ext hXX; replace hT := hT.ext hXX)
         refine SW.nil (Post.sa hXX ?_)
         refine SA.done (by kernel_rfl) ?_
         skip
         refine SW.storeAgg hb16 rfl rfl rfl rfl (Enc.one (enc := encBk) ⟨x.At + pw (q - 1), q - 1, ty⟩) fun w5 hb16' hg => ?_
         have hG := hb16.gr hg
         replace hw := hw.own h16w hg
         replace hX := hX.grown hg (.inr hn16)
         replace hb15 := hb15.grown hg (by simpa using hn15)
         (replace hb3 := hb3.grT hG rfl; replace hb6 := hb6.grT hG rfl; replace hT := hT.grT hG rfl)
         replace hb16 := hb16'
         clear hb16' hg hG cE
         repeat' (first | (show CW _ _ _ _ _ _; first | refine CW.seq ?_ | refine CW.region ?_) | (show Post _ _ _ _ _; first | refine Post.seq ?_ | refine Post.np ?_) | refine SW.nil ?_ | refine SW.pure rfl rfl ?_ | (show SW _ _ _ _ (⟨_, Op.fieldAddr _ _ _, _, _, _, none⟩ :: _) _ _; refine SW.st (st_field rfl) rfl ?_) | (show SW _ _ _ _ (⟨_, Op.load _ _, _, _, _, none⟩ :: _) _ _; first | refine SW.st (st_loads rfl rfl ((fun _ _ => hb3.cell))) rfl ?_ | refine SW.st (st_load rfl (hb16.cell (i := 0) (v := .int .i64 (x.At + pw (q - 1))) rfl)) rfl ?_ | refine SW.st (st_load rfl (hb3.cell (i := 2) (v := .slice A l.length c) rfl)) rfl ?_ | refine SW.st (st_loads rfl rfl ((fun _ _ => hb16.cell))) rfl ?_) | (show SW _ _ _ _ (⟨_, Op.call ⟨.value (.func _), _, _⟩, _, _, _, none⟩ :: _) _ _; (refine SW.call rfl rfl (cF _ hX.sl) ?_; intro v w1 hw1 hv; subst hv; replace hw := Ext.trans hw hw1; replace hb3 := hb3.ext hw1; replace hb6 := hb6.ext hw1; replace hb15 := hb15.ext hw1; replace hb16 := hb16.ext hw1; replace hX := hX.ext hw1; replace hT := hT.ext hw1; clear hw1)))
         refine SW.build1 rfl rfl rfl rfl rfl fun b w6 hXX hb hB => ?_
         have hneb : ownB A c ≠ some b := fun e => by have := hX.lt_size _ e; omega
         (replace hw := Ext.trans hw hXX; replace hb3 := hb3.ext hXX; replace hb6 := hb6.ext hXX; replace hb15 := hb15.ext hXX; replace hX := hX.ext hXX; replace hT := hT.ext hXX)
         skip
         refine SW.callX rfl rfl (InsertBlock_ans A l.length c w.heap.size l _ hX (lbOf l (x.At + pw (q - 1))) hlb (halfB ty x.At q) b hB hneb (by omega) hw.size) fun v w7 hv => ?_
         obtain ⟨A2, c2, rfl, hO2, hg⟩ := hv
         have hG := hX.gr hg
         replace hw := ext_grown hw hg (Nat.le_refl _) hX.row_ge
         replace hb15 := hb15.grown hg (fun e => hne e.symm)
         (replace hb3 := hb3.grT hG rfl; replace hb6 := hb6.grT hG rfl; replace hT := hT.grT hG rfl)
         clear hg hG hX
         have hne2 : ownB A2 c2 ≠ some b15 := hO2.ne_one (x := ⟨x.At, q - 1, ty⟩) hb15 (by omega) fun y hy e => by
          have g1 := (hJ2.blk y hy).1
          have g2 := pw_le g1.1 g1.2.1
          simp only at e
          rcases hJ2.dis y hy with g | g <;> omega
         rw [← hhl] at hO2
         rw [← hhl]
         repeat' ((show SW _ _ _ _ (⟨_, Op.fieldAddr _ _ _, _, _, _, none⟩ :: _) _ _; refine SW.st (st_field rfl) rfl ?_))
         refine SW.storeB (i := 2) hb3 rfl rfl rfl rfl fun w8 hb3' hg => ?_
         have hG := hb3.gr hg
         replace hw := hw.own hb3b hg
         replace hb6 := hb6.grown hg (by simpa using hne36.symm)
         (replace hb15 := hb15.grT hG rfl; replace hO2 := hO2.grT hG rfl; replace hT := hT.grT hG rfl)
         repeat' (first | (show Post _ _ _ _ _; refine Post.blk ?_) | refine SW.nil ?_)
         exact Post.again (q - 1, halfL ty x.At q l, A2, c2) ⟨rfl, rfl, rfl, rfl, trivial⟩ (by simp only; omega) ⟨hw, hb3', hb6, hb15, hO2, hT, hJ2, by simp only; omega, hfin, by simp only; omega, hne2⟩
        ·refine SW.alloc rfl fun b16 w4 hXX h16b hb16 => ?_
         have h16w : w.heap.size ≤ b16 := Nat.le_trans hw.size h16b
         have hn16 : ownB A c ≠ some b16 := fun e => by have := hX.lt_size _ e; omega
         have hn15 : b15 ≠ b16 := by have := hb15.lt; omega
         (replace hw := Ext.trans hw hXX; replace hb3 := hb3.ext hXX; replace hb6 := hb6.ext hXX; replace hb15 := hb15.ext hXX; replace hX := hX.ext hXX; replace hT := hT.ext hXX)
         refine SW.nil (Post.sa hXX ?_)
         refine SA.one 1 rfl (by kernel_rfl) rfl ?_
         refine SW.call rfl rfl (cE _) fun v w4 hXX hv => ?_
         subst hv
         (replace hw := Ext.trans hw hXX; replace hb3 := hb3.ext hXX; replace hb6 := hb6.ext hXX; replace hb15 := hb15.ext hXX; replace hX := hX.ext hXX; replace hT := hT.ext hXX)
         try replace hb16 := hb16.ext hXX
         refine SW.nil (Post.sa hXX ?_)
         refine SA.take 6 hRB rfl (by kernel_rfl) (by kernel_rfl) rfl ?_
         repeat ((show SW _ _ _ _ (⟨_, Op.build _ _, _, _, _, none⟩ :: _) _ _; refine SW.st (st_build rfl rfl) rfl ?_))
         refine SW.tknil ?_
         refine SA.done (by kernel_rfl) ?_
         skip
         refine SW.storeAgg hb16 rfl rfl rfl rfl (Enc.one (enc := encBk) ⟨x.At + pw (q - 1), q - 1, ty⟩) fun w5 hb16' hg => ?_
         have hG := hb16.gr hg
         replace hw := hw.own h16w hg
         replace hX := hX.grown hg (.inr hn16)
         replace hb15 := hb15.grown hg (by simpa using hn15)
         (replace hb3 := hb3.grT hG rfl; replace hb6 := hb6.grT hG rfl; replace hT := hT.grT hG rfl)
         replace hb16 := hb16'
         clear hb16' hg hG cE
         repeat' (first | (show CW _ _ _ _ _ _; first | refine CW.seq ?_ | refine CW.region ?_) | (show Post _ _ _ _ _; first | refine Post.seq ?_ | refine Post.np ?_) | refine SW.nil ?_ | refine SW.pure rfl rfl ?_ | (show SW _ _ _ _ (⟨_, Op.fieldAddr _ _ _, _, _, _, none⟩ :: _) _ _; refine SW.st (st_field rfl) rfl ?_) | (show SW _ _ _ _ (⟨_, Op.load _ _, _, _, _, none⟩ :: _) _ _; first | refine SW.st (st_loads rfl rfl ((fun _ _ => hb3.cell))) rfl ?_ | refine SW.st (st_load rfl (hb16.cell (i := 0) (v := .int .i64 (x.At + pw (q - 1))) rfl)) rfl ?_ | refine SW.st (st_load rfl (hb3.cell (i := 2) (v := .slice A l.length c) rfl)) rfl ?_ | refine SW.st (st_loads rfl rfl ((fun _ _ => hb16.cell))) rfl ?_) | (show SW _ _ _ _ (⟨_, Op.call ⟨.value (.func _), _, _⟩, _, _, _, none⟩ :: _) _ _; (refine SW.call rfl rfl (cF _ hX.sl) ?_; intro v w1 hw1 hv; subst hv; replace hw := Ext.trans hw hw1; replace hb3 := hb3.ext hw1; replace hb6 := hb6.ext hw1; replace hb15 := hb15.ext hw1; replace hb16 := hb16.ext hw1; replace hX := hX.ext hw1; replace hT := hT.ext hw1; clear hw1)))
         refine SW.build1 rfl rfl rfl rfl rfl fun b w6 hXX hb hB => ?_
         have hneb : ownB A c ≠ some b := fun e => by have := hX.lt_size _ e; omega
         (replace hw := Ext.trans hw hXX; replace hb3 := hb3.ext hXX; replace hb6 := hb6.ext hXX; replace hb15 := hb15.ext hXX; replace hX := hX.ext hXX; replace hT := hT.ext hXX)
         skip
         refine SW.callX rfl rfl (InsertBlock_ans A l.length c w.heap.size l _ hX (lbOf l (x.At + pw (q - 1))) hlb (halfB ty x.At q) b hB hneb (by omega) hw.size) fun v w7 hv => ?_
         obtain ⟨A2, c2, rfl, hO2, hg⟩ := hv
         have hG := hX.gr hg
         replace hw := ext_grown hw hg (Nat.le_refl _) hX.row_ge
         replace hb15 := hb15.grown hg (fun e => hne e.symm)
         (replace hb3 := hb3.grT hG rfl; replace hb6 := hb6.grT hG rfl; replace hT := hT.grT hG rfl)
         clear hg hG hX
         have hne2 : ownB A2 c2 ≠ some b15 := hO2.ne_one (x := ⟨x.At, q - 1, ty⟩) hb15 (by omega) fun y hy e => by
          have g1 := (hJ2.blk y hy).1
          have g2 := pw_le g1.1 g1.2.1
          simp only at e
          rcases hJ2.dis y hy with g | g <;> omega
         rw [← hhl] at hO2
         rw [← hhl]
         repeat' ((show SW _ _ _ _ (⟨_, Op.fieldAddr _ _ _, _, _, _, none⟩ :: _) _ _; refine SW.st (st_field rfl) rfl ?_))
         refine SW.storeB (i := 2) hb3 rfl rfl rfl rfl fun w8 hb3' hg => ?_
         have hG := hb3.gr hg
         replace hw := hw.own hb3b hg
         replace hb6 := hb6.grown hg (by simpa using hne36.symm)
         (replace hb15 := hb15.grT hG rfl; replace hO2 := hO2.grT hG rfl; replace hT := hT.grT hG rfl)
         repeat' (first | (show Post _ _ _ _ _; refine Post.blk ?_) | refine SW.nil ?_)
         exact Post.again (q - 1, halfL ty x.At q l, A2, c2) ⟨rfl, rfl, rfl, rfl, trivial⟩ (by simp only; omega) ⟨hw, hb3', hb6, hb15, hO2, hT, hJ2, by simp only; omega, hfin, by simp only; omega, hne2⟩
       ·obtain rfl : o = q := by omega
        have hfin2 : l = FIN := by
         rw [← hfin, show (o - o).toNat = 0 by omega]; rfl
        rw [hfin2] at hX
        rw [hfin2] at hb3
        repeat' (first | (show CW _ _ _ _ _ _; first | refine CW.seq ?_ | refine CW.region ?_ | refine CW.condd_f rfl (by omega) ?_ | refine CW.exit ?_) | (show Post _ _ _ _ _; first | refine Post.seq ?_ | refine Post.seq_exit ?_ | refine Post.hit ?_ | refine Post.again_exit ?_) | refine SW.nil ?_ | refine SW.pure rfl rfl ?_ | (show SW _ _ _ _ (⟨_, Op.fieldAddr _ _ _, _, _, _, none⟩ :: _) _ _; refine SW.st (st_field rfl) rfl ?_) | (show SW _ _ _ _ (⟨_, Op.load _ _, _, _, _, none⟩ :: _) _ _; refine SW.st (st_load rfl (hb15.cell (i := 1) (v := .int .i64 o) rfl)) rfl ?_))
        refine CW.anyF 3 5 (fun w2 => Blk w2 b15 55 [.int .i64 x.At, .int .i64 o, .int .i64 ty]) mixed (by kernel_rfl) fun w1 hw1 hRB => ?_
        replace hw := Ext.trans hw hw1; replace hb3 := hb3.ext hw1; replace hb6 := hb6.ext hw1; replace hb15 := hb15.ext hw1; replace hX := hX.ext hw1; replace hT := hT.ext hw1; clear hw1
        refine SF.take 0 [] [] hRB rfl (by kernel_rfl) (by kernel_rfl) (by kernel_rfl) ?_
        repeat ((show SW _ _ _ _ (⟨_, Op.load _ _, _, _, _, none⟩ :: _) _ _; refine SW.st (st_loads rfl rfl ((fun _ _ => hb3.cell))) rfl ?_))
        refine SW.tknil ?_
        refine SF.take2 1 [] hRB rfl (by kernel_rfl) (by kernel_rfl) (by kernel_rfl) (st_field rfl) (fun w2 hS => st_field rfl) rfl ?_
        refine SF.take2 2 [] hRB rfl (by kernel_rfl) (by kernel_rfl) (by kernel_rfl) (st_load rfl (hb15.cell (i := 0) (v := .int .i64 x.At) rfl)) (fun w2 hS => st_load rfl (hS.cell (i := 0) (v := .int .i64 x.At) rfl)) rfl ?_
        refine SF.turn rfl (by kernel_rfl) rfl ?_
        refine SW.storeAgg hb6 rfl rfl rfl rfl (one_z ⟨s.From, s.To, ⟨A, FIN.length, c⟩, s.Types⟩) fun w5 hR2 hg => ?_
        have hG := hb6.gr hg
        have hS := hb15.grT hG rfl
        replace hw := hw.own hb6w hg
        (replace hX := hX.grT hG rfl; replace hT := hT.grT hG rfl)
        refine SW.nil (Post.sg hS ?_)
        refine SG.one 4 rfl (by kernel_rfl) rfl ?_
        repeat (refine SW.pure rfl rfl ?_)
        refine SW.nil (Post.sg hS ?_)
        refine SG.last rfl (by kernel_rfl) (by kernel_rfl) ?_
        repeat' (first | (show CW _ _ _ _ _ _; refine CW.ret ?_) | (show Post _ _ _ _ _; first | refine Post.seq ?_ | refine Post.np ?_) | refine SW.nil ?_ | refine SW.pure rfl rfl ?_)
        exact Post.ret3c rfl rfl rfl rfl hR2 rfl ⟨_, rfl, hw, _, hok, ⟨s.From, s.To, ⟨A, FIN.length, c⟩, s.Types⟩, rfl, ⟨sF, sT, hX, hT⟩⟩
   ·have hty' := hty
    unfold tyOk at hty'
    rcases (show t < 0 ∨ (0 ≤ t ∧ 2 < t) by omega) with g | g
    all_goals
     repeat' (first | (show CW _ _ _ _ _ _; first | refine CW.seq ?_ | refine CW.region ?_ | refine CW.condtr rfl (by with_reducible rfl) ?_ | refine CW.condd_t rfl (by omega) ?_ | refine CW.condd_f rfl (by omega) ?_ | refine CW.condn_f rfl (by omega) ?_ | refine CW.skip ?_) | (show Post _ _ _ _ _; refine Post.seq ?_) | refine SW.nil ?_ | (show SW _ _ _ _ (⟨_, _, _, _, _, some _⟩ :: _) _ _; first | refine SW.want_f rfl rfl (by with_reducible rfl) ?_ | refine SW.skip_f rfl rfl (by with_reducible rfl) rfl ?_ | refine SW.splitd_t rfl rfl rfl (by omega) ?_ | refine SW.splitd_f rfl rfl rfl (by omega) ?_) | refine SW.pure rfl rfl ?_ | (show SW _ _ _ _ (⟨_, Op.build _ _, _, _, _, none⟩ :: _) _ _; refine SW.st (st_build rfl rfl) rfl ?_) | (show SW _ _ _ _ (⟨_, Op.load _ _, _, _, _, none⟩ :: _) _ _; refine SW.st (st_loads rfl rfl ((fun _ _ => hb3.cell))) rfl ?_) | (show SW _ _ _ _ (⟨_, Op.call ⟨.value (.func _), _, _⟩, _, _, _, none⟩ :: _) _ _; (refine SW.call rfl rfl (c1 _ hw) ?_; intro v w1 hw1 hv; subst hv; replace hw := Ext.trans hw hw1; replace hb3 := hb3.ext hw1; replace hb6 := hb6.ext hw1; clear hw1)))
     refine SW.storeAgg hb6 rfl rfl rfl rfl (one_z .zero) fun w5 hR2 hg => ?_
     replace hw := hw.own hb6w hg
     repeat' (first | (show CW _ _ _ _ _ _; refine CW.ret ?_) | (show Post _ _ _ _ _; first | refine Post.seq ?_ | refine Post.seq_ret ?_) | refine SW.nil ?_ | refine SW.pure rfl rfl ?_)
     exact Post.ret3c rfl rfl rfl rfl hR2 rfl ⟨_, rfl, hw, _, .kind hq ho hty, TakeOut.zero 2 _ _⟩
  ·rcases (show o < 0 ∨ (0 ≤ o ∧ 4 < o) by omega) with g | g
   all_goals
    repeat' (first | (show CW _ _ _ _ _ _; first | refine CW.seq ?_ | refine CW.region ?_ | refine CW.condtr rfl (by with_reducible rfl) ?_ | refine CW.condd_t rfl (by omega) ?_ | refine CW.condn_f rfl (by omega) ?_ | refine CW.skip ?_) | (show Post _ _ _ _ _; refine Post.seq ?_) | refine SW.nil ?_ | (show SW _ _ _ _ (⟨_, _, _, _, _, some _⟩ :: _) _ _; first | refine SW.want_f rfl rfl (by with_reducible rfl) ?_ | refine SW.skip_f rfl rfl (by with_reducible rfl) rfl ?_ | refine SW.splitd_t rfl rfl rfl (by omega) ?_ | refine SW.splitd_f rfl rfl rfl (by omega) ?_) | refine SW.pure rfl rfl ?_ | (show SW _ _ _ _ (⟨_, Op.build _ _, _, _, _, none⟩ :: _) _ _; refine SW.st (st_build rfl rfl) rfl ?_) | (show SW _ _ _ _ (⟨_, Op.load _ _, _, _, _, none⟩ :: _) _ _; refine SW.st (st_loads rfl rfl ((fun _ _ => hb3.cell))) rfl ?_) | (show SW _ _ _ _ (⟨_, Op.call ⟨.value (.func _), _, _⟩, _, _, _, none⟩ :: _) _ _; (refine SW.call rfl rfl (c1 _ hw) ?_; intro v w1 hw1 hv; subst hv; replace hw := Ext.trans hw hw1; replace hb3 := hb3.ext hw1; replace hb6 := hb6.ext hw1; clear hw1)))
    refine SW.storeAgg hb6 rfl rfl rfl rfl (one_z .zero) fun w5 hR2 hg => ?_
    replace hw := hw.own hb6w hg
    repeat' (first | (show CW _ _ _ _ _ _; refine CW.ret ?_) | (show Post _ _ _ _ _; first | refine Post.seq ?_ | refine Post.seq_ret ?_) | refine SW.nil ?_ | refine SW.pure rfl rfl ?_)
    exact Post.ret3c rfl rfl rfl rfl hR2 rfl ⟨_, rfl, hw, _, .range hq ho, TakeOut.zero 1 _ _⟩
end Go.Proofs.YtfommgdbahemfaaDoor
set_option linter.unusedVariables false
namespace Go.Proofs.YtfommgdbahemfaaDoor
open Go.RowKit
theorem others_named : Tryd.prog.globalNamed "paddock/buddy.others" = some 0 := by kernel_rfl
theorem others_type : (Tryd.prog.globals[0]?).map (·.type) = some 52 := by kernel_rfl
set_option maxRecDepth 100000 in
theorem others_cells {W : World} {cs : List Value} {fuel : Nat} {p : List MemPlace} {enc : TypeId × Value → Unit} {base : Nat} {spare : Nat → Bool} {held : Bool} (h : DataW.trod enc Tryd.prog W base spare held fuel 52 cs = some (Rows.laid_paddock_buddy_others, p)) :
  cs = [.int .i64 2, .int .i64 1, .int .i64 2, .int .i64 0, .int .i64 0, .int .i64 1] := by
 have c2 : Tryd.prog.cellsOf 51 = 2 := by kernel_rfl
 have c6 : Tryd.prog.cellsOf 52 = 6 := by kernel_rfl
 have c1 : Tryd.prog.cellsOf 3 = 1 := by kernel_rfl
 obtain ⟨xs, m, rfl, hx, hlen, hn, hel⟩ := DataW.trod_array Tryd.underlying52 h
 rw [c6] at hlen
 rw [c2] at hel
 simp only [Prod.mk.injEq] at hx
 have pair : ∀ (a b : Value) (u v : Int) (x : DataW Unit × List MemPlace), DataW.trod enc Tryd.prog W base spare held m 51 [a, b] = some x → x.1 = .agg [.lit (.int .i64 u), .lit (.int .i64 v)] → a = .int .i64 u ∧ b = .int .i64 v := by
  intro a b u v x hx e
  obtain ⟨ys, k, rfl, rfl, _, hk, he⟩ := DataW.trod_array Tryd.underlying51 hx
  rw [c1] at he
  match ys, hk with
  | [y0, y1], _ =>
   have h0 := he 0 (by decide)
   have h1 := he 1 (by decide)
   obtain ⟨z0, e0, f0, _⟩ := DataW.trod_int Tryd.underlying3 (show DataW.trod enc Tryd.prog W base spare held k 3 [a] = some y0 from h0)
   obtain ⟨z1, e1, f1, _⟩ := DataW.trod_int Tryd.underlying3 (show DataW.trod enc Tryd.prog W base spare held k 3 [b] = some y1 from h1)
   rw [f0, f1] at e
   simp at e e0 e1
   rw [e0, e1, e.1, e.2]
   exact ⟨rfl, rfl⟩
 match cs, hlen, xs, hn with
 | [a, b, c, d, e, f], _, [x0, x1, x2], _ =>
  have h0 := hel 0 (by decide)
  have h1 := hel 1 (by decide)
  have h2 := hel 2 (by decide)
  have hx1 := hx.1
  simp only [Rows.laid_paddock_buddy_others, List.map_cons, List.map_nil, DataW.agg.injEq, List.cons.injEq, and_true] at hx1
  obtain ⟨rfl, rfl⟩ := pair a b 2 1 x0 h0 hx1.1.symm
  obtain ⟨rfl, rfl⟩ := pair c d 2 0 x1 h1 hx1.2.1.symm
  obtain ⟨rfl, rfl⟩ := pair e f 0 1 x2 h2 hx1.2.2.symm
  rfl
theorem oth_of_laid {W : World} (h : laidMetH Tryd.prog [("paddock/buddy.others", Rows.laid_paddock_buddy_others)] W) : OthW W := by
 rw [MakeChecks.laidMetH_plain _ _ _ (by kernel_rfl)] at h
 obtain ⟨ps, ⟨g0, t0, cs0, f0, p0, q0, hg0, ht0, hv0, hd0, _⟩, _, _⟩ := h
 obtain rfl := Option.some.inj (others_named.symm.trans hg0)
 obtain rfl := Option.some.inj (others_type.symm.trans ht0)
 have hc := others_cells hd0
 refine ⟨fun k hk j v hv => ?_⟩
 have hcell : ∀ i, W.cell? ⟨0, i, none⟩ = cs0.toList[i]? := fun i => by
  have := World.var?_cell hg0 hv0 i
  simpa using this
 rw [add_add, addr_of, hcell, hc]
 rcases (show k = 0 ∨ k = 1 ∨ k = 2 by omega) with rfl | rfl | rfl
 all_goals
  match j, hv with
  | 0, hv => simpa [oth1, oth2] using hv
  | 1, hv => simpa [oth1, oth2] using hv
end Go.Proofs.YtfommgdbahemfaaDoor
