/-
  Texts of the claim PagesAllocs, part 20: what its theorem leans on.
-/
import Derived.Test.YtfommgdbahemfaaDoorPackPagesAllocs11
import Derived.Test.YtfommgdbahemfaaDoorPackPagesAllocs19
set_option linter.unusedVariables false
set_option linter.unusedSimpArgs false
namespace Go.Proofs.YtfommgdbahemfaaDoor
open Go.RowKit
def tyGr (T : List Int) (i : Nat) (t : Int) (c : Nat) : List Int := if c = 0 then T else if c = 1 then T.set i t else (T.set i t).set (i + 1) t
theorem tyGr_step {T : List Int} {i : Nat} {t : Int} {c : Nat} (hc : c < 2) : (tyGr T i t c).set (i + c) t = tyGr T i t (c + 1) := by
 rcases (show c = 0 ∨ c = 1 by omega) with rfl | rfl <;> simp [tyGr]
def grN (b : Block) : Nat := if b.Order = 4 then 2 else 1
theorem tyGr_all {z : Zone} {b : Block} {t : Int} (h2 : 2 ≤ b.Order) : tyGr z.Types (stIdx z b) t (grN b) = stTypes z b t := by
 unfold tyGr grN stTypes
 by_cases h : b.Order = 4
 ·rw [if_pos h, if_neg (by omega), if_neg (by omega), if_neg (by omega), if_pos h]
 ·rw [if_neg h, if_neg (by omega), if_pos rfl, if_neg (by omega), if_neg h]
theorem stLast {b : Block} (h2 : 2 ≤ b.Order) (h4 : b.Order ≤ 4) (hm : b.At % pw b.Order = 0) : (b.At + pw b.Order - 1) / 8 * 8 = stTo b - 8 ∧ stTo b - 8 = b.At / 8 * 8 + 8 * (grN b : Int) - 8 := by
 unfold stTo grN
 rcases pw_cases (show 0 ≤ b.Order by omega) h4 with ⟨e1, e2⟩ | ⟨e1, e2⟩ | ⟨e1, e2⟩ | ⟨e1, e2⟩ | ⟨e1, e2⟩ <;> rw [e2] at hm ⊢ <;> split <;> omega
theorem takeF_low {z : Zone} {b : Block} {t : Int} {st : Bool} (h : b.Order < 2) : takeF z b t st = z.Free ∧ (if st = true then stTypes z b t else z.Types) = z.Types ∧ tySt z t st b = b.Ty := by
 refine ⟨?_, ?_, ?_⟩
 ·unfold takeF stFree; rw [if_pos h]; split <;> rfl
 ·unfold stTypes; rw [if_pos h]; split <;> rfl
 ·unfold tySt; rw [if_neg (by omega)]
set_option maxHeartbeats 8000000 in
theorem TakenOf_ans (r : ZRow) (z : Zone) (o t : Int) (w : World) (hr : RdZ w r z) (hf : (r.Free.n + 1) * 24 ≤ 140737488355328) (ht : r.Types.n * 8 ≤ 140737488355328) (h1 : -9223372036854775808 ≤ r.From ∧ r.From ≤ 9223372036854775807) (h2 : -9223372036854775808 ≤ r.To ∧ r.To ≤ 9223372036854775807) :
  Ans Tryd.prog 8 [.agg (encZ r).toArray, .int .i64 o, .int .i64 t] w fun v w' => ∃ u, TakeR z o t u ∧ TakeOut w.heap.size u v w' := by
 refine ans_of Tryd.func8 rfl Tryd.ntmps8 rfl ?_
 refine CW.seq (CW.region (SW.box rfl rfl fun b3 w1 hw hb3b hb3 => ?_))
 refine SW.alloc rfl fun b6 w2 hw2 hb6b hb6 => ?_
 have hb6w : w.heap.size ≤ b6 := Nat.le_trans hw.size hb6b
 have hne36 : b3 ≠ b6 := by have := hb3.lt; omega
 (replace hw := Ext.trans hw hw2; replace hb3 := hb3.ext hw2)
 have eF := hr.from_
 have eT := hr.to_
 have hFl := hr.free.len
 have hTl := hr.types.len
 obtain ⟨q, hq⟩ : ∃ q, zoneB z = q := ⟨_, rfl⟩
 have c1 : ∀ w', Ext w w' → Ans Tryd.prog 26 [.agg (encZ r).toArray] w' fun v _ => v = .bool q := fun w' h => by
  have := ZoneMay_ans r z w' (hr.ext h) (by omega) (by omega) h1 h2
  rwa [hq] at this
 cases q
 ·repeat' (first | (show CW _ _ _ _ _ _; first | refine CW.seq ?_ | refine CW.region ?_ | refine CW.condt rfl ?_) | (show Post _ _ _ _ _; refine Post.seq ?_) | refine SW.nil ?_ | refine SW.pure rfl rfl ?_ | (show SW _ _ _ _ (⟨_, Op.build _ _, _, _, _, none⟩ :: _) _ _; refine SW.st (st_build rfl rfl) rfl ?_) | (show SW _ _ _ _ (⟨_, Op.load _ _, _, _, _, none⟩ :: _) _ _; refine SW.st (st_loads rfl rfl ((fun _ _ => hb3.cell))) rfl ?_) | (show SW _ _ _ _ (⟨_, Op.call ⟨.value (.func _), _, _⟩, _, _, _, none⟩ :: _) _ _; (refine SW.call rfl rfl (c1 _ hw) ?_; intro v w1 hw1 hv; subst hv; replace hw := Ext.trans hw hw1; replace hb3 := hb3.ext hw1; replace hb6 := hb6.ext hw1; clear hw1)))
  refine SW.storeAgg hb6 rfl rfl rfl rfl (one_z .zero) fun w5 hR2 hg => ?_
  replace hw := hw.own hb6w hg
  repeat' (first | (show CW _ _ _ _ _ _; refine CW.ret ?_) | (show Post _ _ _ _ _; first | refine Post.seq ?_ | refine Post.seq_ret ?_) | refine SW.nil ?_ | refine SW.pure rfl rfl ?_)
  exact Post.ret3c rfl rfl rfl rfl hR2 rfl ⟨_, rfl, hw, _, .bad hq, TakeOut.zero 8 _ _⟩
 ·have hz := zoneB_iff.1 hq
  obtain ⟨o1, o2, o3, o4, o5⟩ := hz.ok
  by_cases ho : 0 ≤ o ∧ o ≤ 4
  ·by_cases hty : tyOk t
   ·have hty' := hty
    unfold tyOk at hty'
    repeat' (first | (show CW _ _ _ _ _ _; first | refine CW.seq ?_ | refine CW.region ?_ | refine CW.condn_f rfl (by omega) ?_ | refine CW.condf rfl ?_ | refine CW.skip ?_) | (show Post _ _ _ _ _; refine Post.seq ?_) | refine SW.nil ?_ | refine SW.pure rfl rfl ?_ | (show SW _ _ _ _ (⟨_, Op.load _ _, _, _, _, none⟩ :: _) _ _; refine SW.st (st_loads rfl rfl ((fun _ _ => hb3.cell))) rfl ?_) | (show SW _ _ _ _ (⟨_, Op.call ⟨.value (.func _), _, _⟩, _, _, _, none⟩ :: _) _ _; first | (refine SW.call rfl rfl (c1 _ hw) ?_; intro v w1 hw1 hv; subst hv; replace hw := Ext.trans hw hw1; replace hb3 := hb3.ext hw1; replace hb6 := hb6.ext hw1; clear hw1) | (refine SW.call rfl rfl (In_ans _ _ _ _) ?_; intro v w1 hw1 hv; subst hv; replace hw := Ext.trans hw hw1; replace hb3 := hb3.ext hw1; replace hb6 := hb6.ext hw1; clear hw1)))
    all_goals first | (exfalso; omega) | skip
    refine SW.call rfl rfl (ZoneCopy_ans r z _ (hr.ext hw) (by omega) ht) fun v w4 hw4 hv => ?_
    obtain ⟨s, rfl, hs⟩ := hv
    replace hs := hs.low hw.size
    (replace hw := Ext.trans hw hw4; replace hb3 := hb3.ext hw4; replace hb6 := hb6.ext hw4)
    clear c1
    skip
    refine SW.alloc rfl fun b9 w5 hw5 h9b hb9 => ?_
    have h9w : w.heap.size ≤ b9 := Nat.le_trans hw.size h9b
    have hne39 : b3 ≠ b9 := by have := hb3.lt; omega
    have hne69 : b6 ≠ b9 := by have := hb6.lt; omega
    (replace hw := Ext.trans hw hw5; replace hb3 := hb3.ext hw5; replace hb6 := hb6.ext hw5; replace hs := hs.ext hw5)
    skip
    refine SW.storeAgg hb9 rfl rfl rfl rfl (one_z s) fun w5 hb9' hg => ?_
    have hG := hb9.gr hg
    replace hw := hw.own h9w hg
    have hX := hs.free.grT hG rfl
    have hT := hs.types.grT hG rfl
    replace hb6 := hb6.grown hg (by simpa using hne69)
    replace hb3 := hb3.grown hg (by simpa using hne39)
    replace hb9 := hb9'
    have sF := hs.from_
    have sT := hs.to_
    have es : s.Free.n = z.Free.length := hs.free.len.symm
    have et : s.Types.n = z.Types.length := hs.types.len.symm
    clear hb9' hg hG hs hw5 h9b
    repeat' (first | (show CW _ _ _ _ _ _; first | refine CW.seq ?_ | refine CW.region ?_) | (show Post _ _ _ _ _; refine Post.seq ?_) | refine SW.nil ?_ | (show SW _ _ _ _ (⟨_, Op.build _ _, _, _, _, none⟩ :: _) _ _; refine SW.st (st_build rfl rfl) rfl ?_))
    refine SW.alloc rfl fun b10 w5 hw5 h10b hb10 => ?_
    have h10w : w.heap.size ≤ b10 := Nat.le_trans hw.size h10b
    have hne10 : ownB s.Free.A s.Free.c ≠ some b10 := fun e => by have := hX.lt_size _ e; omega
    (replace hw := Ext.trans hw hw5; replace hb3 := hb3.ext hw5; replace hb6 := hb6.ext hw5; replace hb9 := hb9.ext hw5; replace hX := hX.ext hw5; replace hT := hT.ext hw5)
    skip
    refine SW.storeAgg hb10 rfl rfl rfl rfl (Enc.one (enc := encBk) ⟨0, 0, 0⟩) fun w6 hb10' hg => ?_
    have hG := hb10.gr hg
    replace hw := hw.own h10w hg
    replace hX := hX.grown hg (.inr hne10)
    (replace hb3 := hb3.grT hG rfl; replace hb6 := hb6.grT hG rfl; replace hb9 := hb9.grT hG rfl; replace hT := hT.grT hG rfl)
    replace hb10 := hb10'
    clear hb10' hg hG hw5 h10b
    have hzl := zone_len hz
    have hsort : ∀ (i j : Nat) (hj : j < z.Free.length) (hij : i < j), (z.Free[i]'(by omega)).At ≤ z.Free[j].At := fun i j hj hij => by
     have g1 := ups_get (zone_ups hz) hj hij
     have g2 := (hz.blk i (by omega)).1
     have g3 := pw_le g2.1 g2.2.1
     omega
    have cL : ∀ p u w', Sl w' 3 encBk s.Free.A s.Free.n z.Free → Ans Tryd.prog 28 [.slice s.Free.A s.Free.n s.Free.c, .int .i64 p, .int .i64 u] w' fun v _ => ∃ x, FirstR (isOT p u) z.Free x ∧ v = .tuple #[.agg (encBk x.1).toArray, .bool x.2] := fun p u w' h => lowestOf_ans _ _ _ z.Free p u w' h (by omega) hsort
    have cLm : ∀ p u, z.Free.any (isOT p u) = false → ∀ w', Sl w' 3 encBk s.Free.A s.Free.n z.Free → Ans Tryd.prog 28 [.slice s.Free.A s.Free.n s.Free.c, .int .i64 p, .int .i64 u] w' fun v _ => v = .tuple #[.agg (encBk ⟨0, 0, 0⟩).toArray, .bool false] := fun p u ha w' h => (cL p u w' h).mono fun v w2 _ hv => by
     obtain ⟨x, hx, rfl⟩ := hv
     rw [hx.of_miss ha]
    have cLh : ∀ p u (k : Nat) (hk : k < z.Free.length) (x : Block), z.Free[k] = x → isOT p u z.Free[k] = true → (∀ (j : Nat) (hj : j < z.Free.length), j < k → isOT p u z.Free[j] = false) → ∀ w', Sl w' 3 encBk s.Free.A s.Free.n z.Free → Ans Tryd.prog 28 [.slice s.Free.A s.Free.n s.Free.c, .int .i64 p, .int .i64 u] w' fun v _ => v = .tuple #[.agg (encBk x).toArray, .bool true] := fun p u k hk x hx hp hb w' h => (cL p u w' h).mono fun v w2 _ hv => by
     obtain ⟨y, hy, rfl⟩ := hv
     rw [hy.of_hit hk hp hb, hx]
    clear cL
    repeat' (first | (show CW _ _ _ _ _ _; first | refine CW.seq ?_ | refine CW.region ?_ | refine CW.block ?_) | (show Post _ _ _ _ _; refine Post.seq ?_) | refine SW.nil ?_ | refine SW.pure rfl rfl ?_)
    obtain ⟨K, hK⟩ : ∃ K : Env → World → Prop, K = fun L' w' => ∃ (f : Bool) (x : Block), subEnv L' [(1, .int .i64 o), (2, .int .i64 t), (3, .pointer (some ⟨b3, 0, none⟩)), (6, .pointer (some ⟨b6, 0, none⟩)), (9, .pointer (some ⟨b9, 0, none⟩)), (10, .pointer (some ⟨b10, 0, none⟩)), (11, .bool f)] ∧ Ext w w' ∧ Blk w' b3 25 (encZ r) ∧ Blk w' b6 25 (encZ .zero) ∧ Blk w' b9 25 (encZ s) ∧ Blk w' b10 55 (encBk x) ∧
     Own w' w.heap.size 55 3 encBk s.Free.A s.Free.n s.Free.c z.Free ∧ Own w' w.heap.size 3 1 encI s.Types.A s.Types.n s.Types.c z.Types ∧ ((f = false ∧ ∀ m, m < 5 → testN z.Free o t m = false) ∨ ∃ (k : Nat) (hk : k < z.Free.length), f = true ∧ x = z.Free[k] ∧ PickR z.Free o t (some (k, false))) := ⟨_, rfl⟩
    refine CW.cutb K ?_ ?_
    ·refine CW.loop (fun u : Nat × Bool × Block => [(1, .int .i64 o), (2, .int .i64 t), (3, .pointer (some ⟨b3, 0, none⟩)), (6, .pointer (some ⟨b6, 0, none⟩)), (9, .pointer (some ⟨b9, 0, none⟩)), (10, .pointer (some ⟨b10, 0, none⟩)), (11, .bool u.2.1), (12, .int .i64 (o + (u.1 : Int)))])
      (fun u w' => Ext w w' ∧ Blk w' b3 25 (encZ r) ∧ Blk w' b6 25 (encZ .zero) ∧ Blk w' b9 25 (encZ s) ∧ Blk w' b10 55 (encBk u.2.2) ∧ Own w' w.heap.size 55 3 encBk s.Free.A s.Free.n s.Free.c z.Free ∧ Own w' w.heap.size 3 1 encI s.Types.A s.Types.n s.Types.c z.Types ∧ (u.1 : Int) ≤ 5 - o ∧
       ((u.2.1 = false ∧ ∀ m, m < u.1 → testN z.Free o t m = false) ∨ ∃ (k : Nat) (hk : k < z.Free.length), u.2.1 = true ∧ u.2.2 = z.Free[k] ∧ PickR z.Free o t (some (k, false)))) (fun u => if u.2.1 = true then 0 else 7 - u.1) (0, false, ⟨0, 0, 0⟩)
      ⟨rfl, rfl, rfl, rfl, rfl, rfl, rfl, congrArg (fun z => some (Value.int .i64 z)) (by simp), trivial⟩ ⟨hw, hb3, hb6, hb9, hb10, hX, hT, by simp only; omega, .inl ⟨rfl, fun m h => by simp only at h; omega⟩⟩ ?_
     clear hw hb3 hb6 hb9 hb10 hX hT
     rintro ⟨j, f, x⟩ w' ⟨hw, hb3, hb6, hb9, hb10, hX, hT, hj, hI⟩
     simp only at hb10 hj hI ⊢
     rcases hI with ⟨rfl, hI⟩ | ⟨k, hk, rfl, hxk, hP⟩
     ·by_cases hp : o + (j : Int) ≤ 4
      ·have hj5 : j < 5 := by omega
       have hto := test_own (l := z.Free) (o := o) (t := t) hj5 hp
       cases hany : z.Free.any (isOT (o + (j : Int)) t)
       ·have c2 := cLm (o + (j : Int)) t hany
        repeat' (first | (show CW _ _ _ _ _ _; first | refine CW.seq ?_ | refine CW.region ?_ | refine CW.block ?_ | refine CW.condt rfl ?_ | refine CW.skip ?_) | (show Post _ _ _ _ _; refine Post.seq ?_) | refine SW.nil ?_ | (show SW _ _ _ _ (⟨_, _, _, _, _, some _⟩ :: _) _ _; first | refine SW.want_t rfl rfl (by with_reducible rfl) ?_ | refine SW.splitd_t rfl rfl rfl (by omega) ?_) | refine SW.pure rfl rfl ?_ | (show SW _ _ _ _ (⟨_, Op.fieldAddr _ _ _, _, _, _, none⟩ :: _) _ _; refine SW.st (st_field rfl) rfl ?_) | (show SW _ _ _ _ (⟨_, Op.load _ _, _, _, _, none⟩ :: _) _ _; refine SW.st (st_load rfl (hb9.cell (i := 2) (v := .slice s.Free.A s.Free.n s.Free.c) rfl)) rfl ?_) | (show SW _ _ _ _ (⟨_, Op.call ⟨.value (.func _), _, _⟩, _, _, _, none⟩ :: _) _ _; (refine SW.call rfl rfl (c2 _ hX.sl) ?_; intro v w1 hw1 hv; subst hv; replace hw := Ext.trans hw hw1; replace hb3 := hb3.ext hw1; replace hb6 := hb6.ext hw1; replace hb9 := hb9.ext hw1; replace hb10 := hb10.ext hw1; replace hX := hX.ext hw1; replace hT := hT.ext hw1; clear hw1)))
        refine SW.storeAgg hb10 rfl rfl rfl rfl (Enc.one (enc := encBk) ⟨0, 0, 0⟩) fun w6 hb10' hg => ?_
        have hG := hb10.gr hg
        replace hw := hw.own h10w hg
        replace hX := hX.grown hg (.inr hne10)
        (replace hb3 := hb3.grT hG rfl; replace hb6 := hb6.grT hG rfl; replace hb9 := hb9.grT hG rfl; replace hT := hT.grT hG rfl)
        repeat' (first | (show CW _ _ _ _ _ _; refine CW.region ?_) | (show Post _ _ _ _ _; first | refine Post.seq ?_ | refine Post.blk ?_) | refine SW.nil ?_ | refine SW.pure rfl rfl ?_ | (show SW _ _ _ _ (⟨_, Op.binOp _ _ _ _ _, _, _, _, none⟩ :: _) _ _; refine SW.st (st_add rfl rfl (by omega) (by omega)) rfl ?_))
        refine Post.again (j + 1, false, ⟨0, 0, 0⟩) ⟨rfl, rfl, rfl, rfl, rfl, rfl, rfl, congrArg (fun z => some (Value.int .i64 z)) (by simp only; omega), trivial⟩ (by simp <;> omega) ⟨hw, hb3, hb6, hb9, hb10', hX, hT, by simp only; omega, .inl ⟨rfl, fun m h => ?_⟩⟩
        simp only at h
        by_cases e : m = j
        ·subst e; rw [hto, hany]
        ·exact hI m (by omega)
       ·obtain ⟨k, hk, hpk, hbk, hix⟩ := idx_hit hany
        obtain ⟨y, hy⟩ : ∃ y, z.Free[k] = y := ⟨_, rfl⟩
        have c2 := cLh (o + (j : Int)) t k hk y hy hpk hbk
        repeat' (first | (show CW _ _ _ _ _ _; first | refine CW.seq ?_ | refine CW.region ?_ | refine CW.block ?_ | refine CW.condt rfl ?_ | refine CW.skip ?_) | (show Post _ _ _ _ _; refine Post.seq ?_) | refine SW.nil ?_ | (show SW _ _ _ _ (⟨_, _, _, _, _, some _⟩ :: _) _ _; first | refine SW.want_t rfl rfl (by with_reducible rfl) ?_ | refine SW.splitd_t rfl rfl rfl (by omega) ?_) | refine SW.pure rfl rfl ?_ | (show SW _ _ _ _ (⟨_, Op.fieldAddr _ _ _, _, _, _, none⟩ :: _) _ _; refine SW.st (st_field rfl) rfl ?_) | (show SW _ _ _ _ (⟨_, Op.load _ _, _, _, _, none⟩ :: _) _ _; refine SW.st (st_load rfl (hb9.cell (i := 2) (v := .slice s.Free.A s.Free.n s.Free.c) rfl)) rfl ?_) | (show SW _ _ _ _ (⟨_, Op.call ⟨.value (.func _), _, _⟩, _, _, _, none⟩ :: _) _ _; (refine SW.call rfl rfl (c2 _ hX.sl) ?_; intro v w1 hw1 hv; subst hv; replace hw := Ext.trans hw hw1; replace hb3 := hb3.ext hw1; replace hb6 := hb6.ext hw1; replace hb9 := hb9.ext hw1; replace hb10 := hb10.ext hw1; replace hX := hX.ext hw1; replace hT := hT.ext hw1; clear hw1)))
        refine SW.storeAgg hb10 rfl rfl rfl rfl (Enc.one (enc := encBk) y) fun w6 hb10' hg => ?_
        have hG := hb10.gr hg
        replace hw := hw.own h10w hg
        replace hX := hX.grown hg (.inr hne10)
        (replace hb3 := hb3.grT hG rfl; replace hb6 := hb6.grT hG rfl; replace hb9 := hb9.grT hG rfl; replace hT := hT.grT hG rfl)
        have hP : PickR z.Free o t (some (k, false)) := by
         have := PickR.hit (l := z.Free) (o := o) (t := t) (n := j) (k := k) (by omega) (by rw [hto, hany]) hI hk (by rw [ord_own hj5, ty_own hj5]; exact hpk) (by rw [ord_own hj5, ty_own hj5]; exact hbk)
         rwa [decide_eq_false (by omega)] at this
        repeat' (first | (show CW _ _ _ _ _ _; refine CW.region ?_) | (show Post _ _ _ _ _; first | refine Post.seq ?_ | refine Post.blk ?_) | refine SW.nil ?_ | refine SW.pure rfl rfl ?_ | (show SW _ _ _ _ (⟨_, Op.binOp _ _ _ _ _, _, _, _, none⟩ :: _) _ _; refine SW.st (st_add rfl rfl (by omega) (by omega)) rfl ?_))
        exact Post.again (j + 1, true, y) ⟨rfl, rfl, rfl, rfl, rfl, rfl, rfl, congrArg (fun z => some (Value.int .i64 z)) (by simp only; omega), trivial⟩ (by simp <;> omega) ⟨hw, hb3, hb6, hb9, hb10', hX, hT, by simp only; omega, .inr ⟨k, hk, rfl, hy.symm, hP⟩⟩
      ·repeat' (first | (show CW _ _ _ _ _ _; first | refine CW.seq ?_ | refine CW.region ?_ | refine CW.condfr rfl (by with_reducible rfl) ?_ | refine CW.exit ?_) | (show Post _ _ _ _ _; first | refine Post.seq ?_ | refine Post.seq_exit ?_ | refine Post.hit ?_ | refine Post.again_exit ?_) | refine SW.nil ?_ | (show SW _ _ _ _ (⟨_, _, _, _, _, some _⟩ :: _) _ _; first | refine SW.skip_t rfl rfl (by with_reducible rfl) rfl ?_ | refine SW.splitd_f rfl rfl rfl (by omega) ?_) | refine SW.pure rfl rfl ?_)
       have hT0 : ∀ m, m < 5 → testN z.Free o t m = false := fun m hm => by
        by_cases e : m < j
        ·exact hI m e
        ·exact test_off (by rw [ord_own hm]; omega)
       exact Post.cutn (K := K) (by rw [hK]; exact ⟨false, x, ⟨rfl, rfl, rfl, rfl, rfl, rfl, rfl, trivial⟩, hw, hb3, hb6, hb9, hb10, hX, hT, .inl ⟨rfl, hT0⟩⟩)
     ·by_cases hp : o + (j : Int) ≤ 4
      all_goals
       repeat' (first | (show CW _ _ _ _ _ _; first | refine CW.seq ?_ | refine CW.region ?_ | refine CW.condfr rfl (by with_reducible rfl) ?_ | refine CW.condf rfl ?_ | refine CW.exit ?_) | (show Post _ _ _ _ _; first | refine Post.seq ?_ | refine Post.seq_exit ?_ | refine Post.hit ?_ | refine Post.again_exit ?_) | refine SW.nil ?_ | (show SW _ _ _ _ (⟨_, _, _, _, _, some _⟩ :: _) _ _; first | refine SW.want_t rfl rfl (by with_reducible rfl) ?_ | refine SW.skip_t rfl rfl (by with_reducible rfl) rfl ?_ | refine SW.splitd_t rfl rfl rfl (by omega) ?_ | refine SW.splitd_f rfl rfl rfl (by omega) ?_) | refine SW.pure rfl rfl ?_)
       exact Post.cutn (K := K) (by rw [hK]; exact ⟨true, x, ⟨rfl, rfl, rfl, rfl, rfl, rfl, rfl, trivial⟩, hw, hb3, hb6, hb9, hb10, hX, hT, .inr ⟨k, hk, rfl, hxk, hP⟩⟩)
    ·clear hw hb3 hb6 hb9 hb10 hX hT
     subst hK
     rintro L' w' ⟨f0, x0, hsub, hw, hb3, hb6, hb9, hb10, hX, hT, hI0⟩
     refine Post.sub hsub ?_
     clear hsub
     repeat' (first | (show CW _ _ _ _ _ _; first | refine CW.seq ?_ | refine CW.region ?_ | refine CW.block ?_) | (show Post _ _ _ _ _; refine Post.seq ?_) | refine SW.nil ?_ | refine SW.pure rfl rfl ?_)
     obtain ⟨K, hK⟩ : ∃ K : Env → World → Prop, K = fun L' w' => ∃ (f : Bool) (x : Block) (F : List Block) (T : List Int), subEnv L' [(1, .int .i64 o), (2, .int .i64 t), (3, .pointer (some ⟨b3, 0, none⟩)), (6, .pointer (some ⟨b6, 0, none⟩)), (9, .pointer (some ⟨b9, 0, none⟩)), (10, .pointer (some ⟨b10, 0, none⟩)), (11, .bool f)] ∧ Ext w w' ∧ Blk w' b3 25 (encZ r) ∧ Blk w' b6 25 (encZ .zero) ∧ Blk w' b9 25 (encZ s) ∧ Blk w' b10 55 (encBk x) ∧
      Own w' w.heap.size 55 3 encBk s.Free.A s.Free.n s.Free.c F ∧ Own w' w.heap.size 3 1 encI s.Types.A s.Types.n s.Types.c T ∧ ((f = false ∧ ∀ m, m < 15 → testN z.Free o t m = false) ∨ ∃ (k : Nat) (st : Bool) (hk : k < z.Free.length), f = true ∧ x = ⟨z.Free[k].At, z.Free[k].Order, tySt z t st z.Free[k]⟩ ∧ PickR z.Free o t (some (k, st)) ∧ F = takeF z z.Free[k] t st ∧ T = if st = true then stTypes z z.Free[k] t else z.Types) := ⟨_, rfl⟩
     refine CW.cutb K ?_ ?_
     ·refine CW.loop (fun u : Nat × Bool × Block × List Block × List Int => [(1, .int .i64 o), (2, .int .i64 t), (3, .pointer (some ⟨b3, 0, none⟩)), (6, .pointer (some ⟨b6, 0, none⟩)), (9, .pointer (some ⟨b9, 0, none⟩)), (10, .pointer (some ⟨b10, 0, none⟩)), (11, .bool u.2.1), (13, .int .i64 (4 - (u.1 : Int)))])
       (fun u w' => Ext w w' ∧ Blk w' b3 25 (encZ r) ∧ Blk w' b6 25 (encZ .zero) ∧ Blk w' b9 25 (encZ s) ∧ Blk w' b10 55 (encBk u.2.2.1) ∧ Own w' w.heap.size 55 3 encBk s.Free.A s.Free.n s.Free.c u.2.2.2.1 ∧ Own w' w.heap.size 3 1 encI s.Types.A s.Types.n s.Types.c u.2.2.2.2 ∧ (u.1 : Int) ≤ 5 - o ∧
        ((u.2.1 = false ∧ (∀ m, m < 5 + 2 * u.1 → testN z.Free o t m = false) ∧ u.2.2.2.1 = z.Free ∧ u.2.2.2.2 = z.Types) ∨ ∃ (k : Nat) (st : Bool) (hk : k < z.Free.length), u.2.1 = true ∧ u.2.2.1 = ⟨z.Free[k].At, z.Free[k].Order, tySt z t st z.Free[k]⟩ ∧ PickR z.Free o t (some (k, st)) ∧ u.2.2.2.1 = takeF z z.Free[k] t st ∧ u.2.2.2.2 = if st = true then stTypes z z.Free[k] t else z.Types)) (fun u => if u.2.1 = true then 0 else 7 - u.1) (0, f0, x0, z.Free, z.Types)
       ⟨rfl, rfl, rfl, rfl, rfl, rfl, rfl, rfl, trivial⟩ ⟨hw, hb3, hb6, hb9, hb10, hX, hT, by simp only; omega, ?_⟩ ?_
      ·rcases hI0 with ⟨rfl, hI0⟩ | ⟨k, hk, rfl, rfl, hP⟩
       ·exact .inl ⟨rfl, fun m h => hI0 m (by simp only at h; omega), rfl, rfl⟩
       ·exact .inr ⟨k, false, hk, rfl, by simp [tySt], hP, rfl, rfl⟩
      clear hw hb3 hb6 hb9 hb10 hX hT hI0
      rintro ⟨j, f, x, F, T⟩ w' ⟨hw, hb3, hb6, hb9, hb10, hX, hT, hj, hI⟩
      simp only at hb10 hX hT hj hI ⊢
      rcases hI with ⟨rfl, hI, rfl, rfl⟩ | ⟨k, st, hk, rfl, hxk, hP, hF, hTT⟩
      ·by_cases hp : o ≤ 4 - (j : Int)
       ·have ht1 := test_fst (l := z.Free) (t := t) hp
        have ht2 := test_snd (l := z.Free) (t := t) hp
        repeat' (first | (show CW _ _ _ _ _ _; first | refine CW.seq ?_ | refine CW.region ?_ | refine CW.block ?_ | refine CW.condt rfl ?_ | refine CW.skip ?_) | (show Post _ _ _ _ _; refine Post.seq ?_) | refine SW.nil ?_ | (show SW _ _ _ _ (⟨_, _, _, _, _, some _⟩ :: _) _ _; first | refine SW.want_t rfl rfl (by with_reducible rfl) ?_ | refine SW.splitd_t rfl rfl rfl (by omega) ?_) | refine SW.pure rfl rfl ?_)
        refine SW.call rfl rfl (otherTypes_ans t _ hty) fun v w4 hXX hv => ?_
        obtain ⟨U, rfl, hU⟩ := hv
        replace hU := hU.low hw.size
        (replace hw := Ext.trans hw hXX; replace hb3 := hb3.ext hXX; replace hb6 := hb6.ext hXX; replace hb9 := hb9.ext hXX; replace hb10 := hb10.ext hXX; replace hX := hX.ext hXX; replace hT := hT.ext hXX)
        repeat' (first | (show CW _ _ _ _ _ _; first | refine CW.seq ?_ | refine CW.region ?_ | refine CW.block ?_) | (show Post _ _ _ _ _; refine Post.seq ?_) | refine SW.nil ?_ | refine SW.pure rfl rfl ?_)
        obtain ⟨K2, hK2⟩ : ∃ K2 : Env → World → Prop, K2 = fun L' w' => ∃ (f : Bool) (x : Block), subEnv L' [(1, .int .i64 o), (2, .int .i64 t), (3, .pointer (some ⟨b3, 0, none⟩)), (6, .pointer (some ⟨b6, 0, none⟩)), (9, .pointer (some ⟨b9, 0, none⟩)), (10, .pointer (some ⟨b10, 0, none⟩)), (11, .bool f), (13, .int .i64 (4 - (j : Int)))] ∧ Ext w w' ∧ Blk w' b3 25 (encZ r) ∧ Blk w' b6 25 (encZ .zero) ∧ Blk w' b9 25 (encZ s) ∧ Blk w' b10 55 (encBk x) ∧
         Own w' w.heap.size 55 3 encBk s.Free.A s.Free.n s.Free.c z.Free ∧ Own w' w.heap.size 3 1 encI s.Types.A s.Types.n s.Types.c z.Types ∧ ((f = false ∧ ∀ m, m < 5 + 2 * (j + 1) → testN z.Free o t m = false) ∨ ∃ (k : Nat) (hk : k < z.Free.length), f = true ∧ x = z.Free[k] ∧ z.Free[k].Order = 4 - (j : Int) ∧ PickR z.Free o t (some (k, true))) := ⟨_, rfl⟩
        refine CW.cutb K2 ?_ ?_
        ·refine CW.loop (fun u : Nat × Bool × Block => [(1, .int .i64 o), (2, .int .i64 t), (3, .pointer (some ⟨b3, 0, none⟩)), (6, .pointer (some ⟨b6, 0, none⟩)), (9, .pointer (some ⟨b9, 0, none⟩)), (10, .pointer (some ⟨b10, 0, none⟩)), (11, .bool u.2.1), (13, .int .i64 (4 - (j : Int))), (14, .slice U 2 2), (15, .int .i64 (u.1 : Int))])
          (fun u w' => u.1 ≤ 2 ∧ Ext w w' ∧ Blk w' b3 25 (encZ r) ∧ Blk w' b6 25 (encZ .zero) ∧ Blk w' b9 25 (encZ s) ∧ Blk w' b10 55 (encBk u.2.2) ∧ Own w' w.heap.size 55 3 encBk s.Free.A s.Free.n s.Free.c z.Free ∧ Own w' w.heap.size 3 1 encI s.Types.A s.Types.n s.Types.c z.Types ∧ Own w' w.heap.size 3 1 encI U 2 2 [oth1 t, oth2 t] ∧
           ((u.2.1 = false ∧ ∀ m, m < 5 + 2 * j + u.1 → testN z.Free o t m = false) ∨ ∃ (k : Nat) (hk : k < z.Free.length), u.2.1 = true ∧ u.2.2 = z.Free[k] ∧ z.Free[k].Order = 4 - (j : Int) ∧ PickR z.Free o t (some (k, true)))) (fun u => if u.2.1 = true then 0 else 7 - u.1) (0, false, x)
          ⟨rfl, rfl, rfl, rfl, rfl, rfl, rfl, rfl, rfl, rfl, trivial⟩ ⟨by simp only; omega, hw, hb3, hb6, hb9, hb10, hX, hT, hU, .inl ⟨rfl, hI⟩⟩ ?_
         clear hw hb3 hb6 hb9 hb10 hX hT hU hI
         rintro ⟨v, f, x⟩ w' ⟨hv2, hw, hb3, hb6, hb9, hb10, hX, hT, hU, hI⟩
         simp only at hv2 hb10 hI ⊢
         rcases hI with ⟨rfl, hI⟩ | ⟨k, hk, rfl, hxk, hko, hP⟩
         ·rcases (show v = 0 ∨ v = 1 ∨ v = 2 by omega) with rfl | rfl | rfl
          ·have hV : 0 < 2 := by omega
           have hAU := hU.sl.base
           cases hany : z.Free.any (isOT (4 - (j : Int)) (oth1 t))
           ·have c2 := cLm (4 - (j : Int)) (oth1 t) hany
            repeat' (first | (show CW _ _ _ _ _ _; first | refine CW.seq ?_ | refine CW.region ?_ | refine CW.block ?_ | refine CW.condt rfl ?_ | refine CW.skip ?_) | (show Post _ _ _ _ _; refine Post.seq ?_) | refine SW.nil ?_ | (show SW _ _ _ _ (⟨_, _, _, _, _, some _⟩ :: _) _ _; first | refine SW.want_t rfl rfl (by with_reducible rfl) ?_ | refine SW.splitd_t rfl rfl rfl (by omega) ?_) | refine SW.pure rfl rfl ?_)
            refine CW.anyF 11 12 (fun _ => True) mixed (by kernel_rfl) fun w1 hw1 hRB => ?_
            replace hw := Ext.trans hw hw1; replace hb3 := hb3.ext hw1; replace hb6 := hb6.ext hw1; replace hb9 := hb9.ext hw1; replace hb10 := hb10.ext hw1; replace hX := hX.ext hw1; replace hT := hT.ext hw1; replace hU := hU.ext hw1; clear hw1
            refine SF.take 0 [] [] hRB rfl (by kernel_rfl) (by kernel_rfl) (by kernel_rfl) ?_
            repeat ((show SW _ _ _ _ (⟨_, Op.fieldAddr _ _ _, _, _, _, none⟩ :: _) _ _; refine SW.st (st_field rfl) rfl ?_))
            refine SW.tknil ?_
            refine SF.take 1 [] [] hRB rfl (by kernel_rfl) (by kernel_rfl) (by kernel_rfl) ?_
            repeat ((show SW _ _ _ _ (⟨_, Op.load _ _, _, _, _, none⟩ :: _) _ _; refine SW.st (st_load rfl (hb9.cell (i := 2) (v := .slice s.Free.A s.Free.n s.Free.c) rfl)) rfl ?_))
            refine SW.tknil ?_
            refine SF.take 2 [] [] hRB rfl (by kernel_rfl) (by kernel_rfl) (by kernel_rfl) ?_
            repeat (refine SW.pure rfl rfl ?_)
            refine SW.tknil ?_
            refine SF.take 3 [] [] hRB rfl (by kernel_rfl) (by kernel_rfl) (by kernel_rfl) ?_
            repeat (refine SW.pure rfl rfl ?_)
            refine SW.tknil ?_
            refine SF.take 4 [] [] hRB rfl (by kernel_rfl) (by kernel_rfl) (by kernel_rfl) ?_
            repeat (refine SW.pure rfl rfl ?_)
            refine SW.tknil ?_
            refine SF.take 5 [] [] hRB rfl (by kernel_rfl) (by kernel_rfl) (by kernel_rfl) ?_
            repeat ((show SW _ _ _ _ (⟨_, Op.indexAddr _ _ _, _, _, _, none⟩ :: _) _ _; refine SW.st (st_indexN rfl rfl (by assumption) (by omega)) rfl ?_))
            refine SW.tknil ?_
            refine SF.take 6 [] [] hRB rfl (by kernel_rfl) (by kernel_rfl) (by kernel_rfl) ?_
            repeat ((show SW _ _ _ _ (⟨_, Op.load _ _, _, _, _, none⟩ :: _) _ _; refine SW.st (st_load rfl (hU.sl.one hV (u := .int .i64 (oth1 t)) rfl)) rfl ?_))
            refine SW.tknil ?_
            refine SF.one 7 rfl (by kernel_rfl) rfl ?_
            refine SW.call rfl rfl (c2 _ hX.sl) fun v w4 hXX hv => ?_
            subst hv
            (replace hw := Ext.trans hw hXX; replace hb3 := hb3.ext hXX; replace hb6 := hb6.ext hXX; replace hb9 := hb9.ext hXX; replace hb10 := hb10.ext hXX; replace hX := hX.ext hXX; replace hT := hT.ext hXX; replace hU := hU.ext hXX)
            refine SW.nil (Post.sf hXX ?_)
            refine SF.take 8 [] [] hRB rfl (by kernel_rfl) (by kernel_rfl) (by kernel_rfl) ?_
            repeat (refine SW.pure rfl rfl ?_)
            refine SW.tknil ?_
            refine SF.take 9 [] [] hRB rfl (by kernel_rfl) (by kernel_rfl) (by kernel_rfl) ?_
            repeat (refine SW.pure rfl rfl ?_)
            refine SW.tknil ?_
            refine SF.take2 10 [] hRB rfl (by kernel_rfl) (by kernel_rfl) (by kernel_rfl) (pureV_st rfl) (fun w2 hS => pureV_st rfl) rfl ?_
            refine SF.turn rfl (by kernel_rfl) rfl ?_
            refine SW.storeAgg hb10 rfl rfl rfl rfl (Enc.one (enc := encBk) ⟨0, 0, 0⟩) fun w6 hb10' hg => ?_
            have hG := hb10.gr hg
            have hS : True := trivial
            replace hw := hw.own h10w hg
            replace hX := hX.grown hg (.inr hne10)
            (replace hb3 := hb3.grT hG rfl; replace hb6 := hb6.grT hG rfl; replace hb9 := hb9.grT hG rfl; replace hT := hT.grT hG rfl; replace hU := hU.grT hG rfl)
            refine SW.nil (Post.sg hS ?_)
            refine SG.last rfl (by kernel_rfl) (by kernel_rfl) ?_
            repeat' (first | (show CW _ _ _ _ _ _; refine CW.region ?_) | (show Post _ _ _ _ _; first | refine Post.seq ?_ | refine Post.blk ?_ | refine Post.np ?_) | refine SW.nil ?_ | refine SW.pure rfl rfl ?_ | (show SW _ _ _ _ (⟨_, Op.binOp _ _ _ _ _, _, _, _, none⟩ :: _) _ _; refine SW.st (st_add rfl rfl (by omega) (by omega)) rfl ?_))
            refine Post.again (0 + 1, false, ⟨0, 0, 0⟩) ⟨rfl, rfl, rfl, rfl, rfl, rfl, rfl, rfl, rfl, rfl, trivial⟩ (by simp <;> omega) ⟨by simp only; omega, hw, hb3, hb6, hb9, hb10', hX, hT, hU, .inl ⟨rfl, fun m h => ?_⟩⟩
            simp only at h
            by_cases e : m = 5 + 2 * j + 0
            ·subst e; exact ht1.trans hany
            ·exact hI m (by omega)
           ·obtain ⟨k, hk, hpk, hbk, hix⟩ := idx_hit hany
            obtain ⟨y, hy⟩ : ∃ y, z.Free[k] = y := ⟨_, rfl⟩
            have c2 := cLh (4 - (j : Int)) (oth1 t) k hk y hy hpk hbk
            have hP : PickR z.Free o t (some (k, true)) := by
             have := PickR.hit (l := z.Free) (o := o) (t := t) (n := 5 + 2 * j + 0) (k := k) (by omega) (ht1.trans hany) hI hk (by have e1 := ord_fst (o := o) (j := j); have e2 := ty_fst (t := t) (j := j); (try simp only [Nat.add_zero] at *); rw [e1, e2]; exact hpk) (by have e1 := ord_fst (o := o) (j := j); have e2 := ty_fst (t := t) (j := j); (try simp only [Nat.add_zero] at *); rw [e1, e2]; exact hbk)
             rwa [decide_eq_true (by omega)] at this
            have hko := (isOT_iff.1 hpk).1
            repeat' (first | (show CW _ _ _ _ _ _; first | refine CW.seq ?_ | refine CW.region ?_ | refine CW.block ?_ | refine CW.condt rfl ?_ | refine CW.skip ?_) | (show Post _ _ _ _ _; refine Post.seq ?_) | refine SW.nil ?_ | (show SW _ _ _ _ (⟨_, _, _, _, _, some _⟩ :: _) _ _; first | refine SW.want_t rfl rfl (by with_reducible rfl) ?_ | refine SW.splitd_t rfl rfl rfl (by omega) ?_) | refine SW.pure rfl rfl ?_)
            refine CW.anyF 11 12 (fun _ => True) mixed (by kernel_rfl) fun w1 hw1 hRB => ?_
            replace hw := Ext.trans hw hw1; replace hb3 := hb3.ext hw1; replace hb6 := hb6.ext hw1; replace hb9 := hb9.ext hw1; replace hb10 := hb10.ext hw1; replace hX := hX.ext hw1; replace hT := hT.ext hw1; replace hU := hU.ext hw1; clear hw1
            refine SF.take 0 [] [] hRB rfl (by kernel_rfl) (by kernel_rfl) (by kernel_rfl) ?_
            repeat ((show SW _ _ _ _ (⟨_, Op.fieldAddr _ _ _, _, _, _, none⟩ :: _) _ _; refine SW.st (st_field rfl) rfl ?_))
            refine SW.tknil ?_
            refine SF.take 1 [] [] hRB rfl (by kernel_rfl) (by kernel_rfl) (by kernel_rfl) ?_
            repeat ((show SW _ _ _ _ (⟨_, Op.load _ _, _, _, _, none⟩ :: _) _ _; refine SW.st (st_load rfl (hb9.cell (i := 2) (v := .slice s.Free.A s.Free.n s.Free.c) rfl)) rfl ?_))
            refine SW.tknil ?_
            refine SF.take 2 [] [] hRB rfl (by kernel_rfl) (by kernel_rfl) (by kernel_rfl) ?_
            repeat (refine SW.pure rfl rfl ?_)
            refine SW.tknil ?_
            refine SF.take 3 [] [] hRB rfl (by kernel_rfl) (by kernel_rfl) (by kernel_rfl) ?_
            repeat (refine SW.pure rfl rfl ?_)
            refine SW.tknil ?_
            refine SF.take 4 [] [] hRB rfl (by kernel_rfl) (by kernel_rfl) (by kernel_rfl) ?_
            repeat (refine SW.pure rfl rfl ?_)
            refine SW.tknil ?_
            refine SF.take 5 [] [] hRB rfl (by kernel_rfl) (by kernel_rfl) (by kernel_rfl) ?_
            repeat ((show SW _ _ _ _ (⟨_, Op.indexAddr _ _ _, _, _, _, none⟩ :: _) _ _; refine SW.st (st_indexN rfl rfl (by assumption) (by omega)) rfl ?_))
            refine SW.tknil ?_
            refine SF.take 6 [] [] hRB rfl (by kernel_rfl) (by kernel_rfl) (by kernel_rfl) ?_
            repeat ((show SW _ _ _ _ (⟨_, Op.load _ _, _, _, _, none⟩ :: _) _ _; refine SW.st (st_load rfl (hU.sl.one hV (u := .int .i64 (oth1 t)) rfl)) rfl ?_))
            refine SW.tknil ?_
            refine SF.one 7 rfl (by kernel_rfl) rfl ?_
            refine SW.call rfl rfl (c2 _ hX.sl) fun v w4 hXX hv => ?_
            subst hv
            (replace hw := Ext.trans hw hXX; replace hb3 := hb3.ext hXX; replace hb6 := hb6.ext hXX; replace hb9 := hb9.ext hXX; replace hb10 := hb10.ext hXX; replace hX := hX.ext hXX; replace hT := hT.ext hXX; replace hU := hU.ext hXX)
            refine SW.nil (Post.sf hXX ?_)
            refine SF.take 8 [] [] hRB rfl (by kernel_rfl) (by kernel_rfl) (by kernel_rfl) ?_
            repeat (refine SW.pure rfl rfl ?_)
            refine SW.tknil ?_
            refine SF.take 9 [] [] hRB rfl (by kernel_rfl) (by kernel_rfl) (by kernel_rfl) ?_
            repeat (refine SW.pure rfl rfl ?_)
            refine SW.tknil ?_
            refine SF.take2 10 [] hRB rfl (by kernel_rfl) (by kernel_rfl) (by kernel_rfl) (pureV_st rfl) (fun w2 hS => pureV_st rfl) rfl ?_
            refine SF.turn rfl (by kernel_rfl) rfl ?_
            refine SW.storeAgg hb10 rfl rfl rfl rfl (Enc.one (enc := encBk) y) fun w6 hb10' hg => ?_
            have hG := hb10.gr hg
            have hS : True := trivial
            replace hw := hw.own h10w hg
            replace hX := hX.grown hg (.inr hne10)
            (replace hb3 := hb3.grT hG rfl; replace hb6 := hb6.grT hG rfl; replace hb9 := hb9.grT hG rfl; replace hT := hT.grT hG rfl; replace hU := hU.grT hG rfl)
            refine SW.nil (Post.sg hS ?_)
            refine SG.last rfl (by kernel_rfl) (by kernel_rfl) ?_
            repeat' (first | (show CW _ _ _ _ _ _; refine CW.region ?_) | (show Post _ _ _ _ _; first | refine Post.seq ?_ | refine Post.blk ?_ | refine Post.np ?_) | refine SW.nil ?_ | refine SW.pure rfl rfl ?_ | (show SW _ _ _ _ (⟨_, Op.binOp _ _ _ _ _, _, _, _, none⟩ :: _) _ _; refine SW.st (st_add rfl rfl (by omega) (by omega)) rfl ?_))
            exact Post.again (0 + 1, true, y) ⟨rfl, rfl, rfl, rfl, rfl, rfl, rfl, rfl, rfl, rfl, trivial⟩ (by simp <;> omega) ⟨by simp only; omega, hw, hb3, hb6, hb9, hb10', hX, hT, hU, .inr ⟨k, hk, rfl, hy.symm, hko, hP⟩⟩
          ·have hV : 1 < 2 := by omega
           have hAU := hU.sl.base
           cases hany : z.Free.any (isOT (4 - (j : Int)) (oth2 t))
           ·have c2 := cLm (4 - (j : Int)) (oth2 t) hany
            repeat' (first | (show CW _ _ _ _ _ _; first | refine CW.seq ?_ | refine CW.region ?_ | refine CW.block ?_ | refine CW.condt rfl ?_ | refine CW.skip ?_) | (show Post _ _ _ _ _; refine Post.seq ?_) | refine SW.nil ?_ | (show SW _ _ _ _ (⟨_, _, _, _, _, some _⟩ :: _) _ _; first | refine SW.want_t rfl rfl (by with_reducible rfl) ?_ | refine SW.splitd_t rfl rfl rfl (by omega) ?_) | refine SW.pure rfl rfl ?_)
            refine CW.anyF 11 12 (fun _ => True) mixed (by kernel_rfl) fun w1 hw1 hRB => ?_
            replace hw := Ext.trans hw hw1; replace hb3 := hb3.ext hw1; replace hb6 := hb6.ext hw1; replace hb9 := hb9.ext hw1; replace hb10 := hb10.ext hw1; replace hX := hX.ext hw1; replace hT := hT.ext hw1; replace hU := hU.ext hw1; clear hw1
            refine SF.take 0 [] [] hRB rfl (by kernel_rfl) (by kernel_rfl) (by kernel_rfl) ?_
            repeat ((show SW _ _ _ _ (⟨_, Op.fieldAddr _ _ _, _, _, _, none⟩ :: _) _ _; refine SW.st (st_field rfl) rfl ?_))
            refine SW.tknil ?_
            refine SF.take 1 [] [] hRB rfl (by kernel_rfl) (by kernel_rfl) (by kernel_rfl) ?_
            repeat ((show SW _ _ _ _ (⟨_, Op.load _ _, _, _, _, none⟩ :: _) _ _; refine SW.st (st_load rfl (hb9.cell (i := 2) (v := .slice s.Free.A s.Free.n s.Free.c) rfl)) rfl ?_))
            refine SW.tknil ?_
            refine SF.take 2 [] [] hRB rfl (by kernel_rfl) (by kernel_rfl) (by kernel_rfl) ?_
            repeat (refine SW.pure rfl rfl ?_)
            refine SW.tknil ?_
            refine SF.take 3 [] [] hRB rfl (by kernel_rfl) (by kernel_rfl) (by kernel_rfl) ?_
            repeat (refine SW.pure rfl rfl ?_)
            refine SW.tknil ?_
            refine SF.take 4 [] [] hRB rfl (by kernel_rfl) (by kernel_rfl) (by kernel_rfl) ?_
            repeat (refine SW.pure rfl rfl ?_)
            refine SW.tknil ?_
            refine SF.take 5 [] [] hRB rfl (by kernel_rfl) (by kernel_rfl) (by kernel_rfl) ?_
            repeat ((show SW _ _ _ _ (⟨_, Op.indexAddr _ _ _, _, _, _, none⟩ :: _) _ _; refine SW.st (st_indexN rfl rfl (by assumption) (by omega)) rfl ?_))
            refine SW.tknil ?_
            refine SF.take 6 [] [] hRB rfl (by kernel_rfl) (by kernel_rfl) (by kernel_rfl) ?_
            repeat ((show SW _ _ _ _ (⟨_, Op.load _ _, _, _, _, none⟩ :: _) _ _; refine SW.st (st_load rfl (hU.sl.one hV (u := .int .i64 (oth2 t)) rfl)) rfl ?_))
            refine SW.tknil ?_
            refine SF.one 7 rfl (by kernel_rfl) rfl ?_
            refine SW.call rfl rfl (c2 _ hX.sl) fun v w4 hXX hv => ?_
            subst hv
            (replace hw := Ext.trans hw hXX; replace hb3 := hb3.ext hXX; replace hb6 := hb6.ext hXX; replace hb9 := hb9.ext hXX; replace hb10 := hb10.ext hXX; replace hX := hX.ext hXX; replace hT := hT.ext hXX; replace hU := hU.ext hXX)
            refine SW.nil (Post.sf hXX ?_)
            refine SF.take 8 [] [] hRB rfl (by kernel_rfl) (by kernel_rfl) (by kernel_rfl) ?_
            repeat (refine SW.pure rfl rfl ?_)
            refine SW.tknil ?_
            refine SF.take 9 [] [] hRB rfl (by kernel_rfl) (by kernel_rfl) (by kernel_rfl) ?_
            repeat (refine SW.pure rfl rfl ?_)
            refine SW.tknil ?_
            refine SF.take2 10 [] hRB rfl (by kernel_rfl) (by kernel_rfl) (by kernel_rfl) (pureV_st rfl) (fun w2 hS => pureV_st rfl) rfl ?_
            refine SF.turn rfl (by kernel_rfl) rfl ?_
            refine SW.storeAgg hb10 rfl rfl rfl rfl (Enc.one (enc := encBk) ⟨0, 0, 0⟩) fun w6 hb10' hg => ?_
            have hG := hb10.gr hg
            have hS : True := trivial
            replace hw := hw.own h10w hg
            replace hX := hX.grown hg (.inr hne10)
            (replace hb3 := hb3.grT hG rfl; replace hb6 := hb6.grT hG rfl; replace hb9 := hb9.grT hG rfl; replace hT := hT.grT hG rfl; replace hU := hU.grT hG rfl)
            refine SW.nil (Post.sg hS ?_)
            refine SG.last rfl (by kernel_rfl) (by kernel_rfl) ?_
            repeat' (first | (show CW _ _ _ _ _ _; refine CW.region ?_) | (show Post _ _ _ _ _; first | refine Post.seq ?_ | refine Post.blk ?_ | refine Post.np ?_) | refine SW.nil ?_ | refine SW.pure rfl rfl ?_ | (show SW _ _ _ _ (⟨_, Op.binOp _ _ _ _ _, _, _, _, none⟩ :: _) _ _; refine SW.st (st_add rfl rfl (by omega) (by omega)) rfl ?_))
            refine Post.again (1 + 1, false, ⟨0, 0, 0⟩) ⟨rfl, rfl, rfl, rfl, rfl, rfl, rfl, rfl, rfl, rfl, trivial⟩ (by simp <;> omega) ⟨by simp only; omega, hw, hb3, hb6, hb9, hb10', hX, hT, hU, .inl ⟨rfl, fun m h => ?_⟩⟩
            simp only at h
            by_cases e : m = 5 + 2 * j + 1
            ·subst e; exact ht2.trans hany
            ·exact hI m (by omega)
           ·obtain ⟨k, hk, hpk, hbk, hix⟩ := idx_hit hany
            obtain ⟨y, hy⟩ : ∃ y, z.Free[k] = y := ⟨_, rfl⟩
            have c2 := cLh (4 - (j : Int)) (oth2 t) k hk y hy hpk hbk
            have hP : PickR z.Free o t (some (k, true)) := by
             have := PickR.hit (l := z.Free) (o := o) (t := t) (n := 5 + 2 * j + 1) (k := k) (by omega) (ht2.trans hany) hI hk (by have e1 := ord_snd (o := o) (j := j); have e2 := ty_snd (t := t) (j := j); (try simp only [Nat.add_zero] at *); rw [e1, e2]; exact hpk) (by have e1 := ord_snd (o := o) (j := j); have e2 := ty_snd (t := t) (j := j); (try simp only [Nat.add_zero] at *); rw [e1, e2]; exact hbk)
             rwa [decide_eq_true (by omega)] at this
            have hko := (isOT_iff.1 hpk).1
            repeat' (first | (show CW _ _ _ _ _ _; first | refine CW.seq ?_ | refine CW.region ?_ | refine CW.block ?_ | refine CW.condt rfl ?_ | refine CW.skip ?_) | (show Post _ _ _ _ _; refine Post.seq ?_) | refine SW.nil ?_ | (show SW _ _ _ _ (⟨_, _, _, _, _, some _⟩ :: _) _ _; first | refine SW.want_t rfl rfl (by with_reducible rfl) ?_ | refine SW.splitd_t rfl rfl rfl (by omega) ?_) | refine SW.pure rfl rfl ?_)
            refine CW.anyF 11 12 (fun _ => True) mixed (by kernel_rfl) fun w1 hw1 hRB => ?_
            replace hw := Ext.trans hw hw1; replace hb3 := hb3.ext hw1; replace hb6 := hb6.ext hw1; replace hb9 := hb9.ext hw1; replace hb10 := hb10.ext hw1; replace hX := hX.ext hw1; replace hT := hT.ext hw1; replace hU := hU.ext hw1; clear hw1
            refine SF.take 0 [] [] hRB rfl (by kernel_rfl) (by kernel_rfl) (by kernel_rfl) ?_
            repeat ((show SW _ _ _ _ (⟨_, Op.fieldAddr _ _ _, _, _, _, none⟩ :: _) _ _; refine SW.st (st_field rfl) rfl ?_))
            refine SW.tknil ?_
            refine SF.take 1 [] [] hRB rfl (by kernel_rfl) (by kernel_rfl) (by kernel_rfl) ?_
            repeat ((show SW _ _ _ _ (⟨_, Op.load _ _, _, _, _, none⟩ :: _) _ _; refine SW.st (st_load rfl (hb9.cell (i := 2) (v := .slice s.Free.A s.Free.n s.Free.c) rfl)) rfl ?_))
            refine SW.tknil ?_
            refine SF.take 2 [] [] hRB rfl (by kernel_rfl) (by kernel_rfl) (by kernel_rfl) ?_
            repeat (refine SW.pure rfl rfl ?_)
            refine SW.tknil ?_
            refine SF.take 3 [] [] hRB rfl (by kernel_rfl) (by kernel_rfl) (by kernel_rfl) ?_
            repeat (refine SW.pure rfl rfl ?_)
            refine SW.tknil ?_
            refine SF.take 4 [] [] hRB rfl (by kernel_rfl) (by kernel_rfl) (by kernel_rfl) ?_
            repeat (refine SW.pure rfl rfl ?_)
            refine SW.tknil ?_
            refine SF.take 5 [] [] hRB rfl (by kernel_rfl) (by kernel_rfl) (by kernel_rfl) ?_
            repeat ((show SW _ _ _ _ (⟨_, Op.indexAddr _ _ _, _, _, _, none⟩ :: _) _ _; refine SW.st (st_indexN rfl rfl (by assumption) (by omega)) rfl ?_))
            refine SW.tknil ?_
            refine SF.take 6 [] [] hRB rfl (by kernel_rfl) (by kernel_rfl) (by kernel_rfl) ?_
            repeat ((show SW _ _ _ _ (⟨_, Op.load _ _, _, _, _, none⟩ :: _) _ _; refine SW.st (st_load rfl (hU.sl.one hV (u := .int .i64 (oth2 t)) rfl)) rfl ?_))
            refine SW.tknil ?_
            refine SF.one 7 rfl (by kernel_rfl) rfl ?_
            refine SW.call rfl rfl (c2 _ hX.sl) fun v w4 hXX hv => ?_
            subst hv
            (replace hw := Ext.trans hw hXX; replace hb3 := hb3.ext hXX; replace hb6 := hb6.ext hXX; replace hb9 := hb9.ext hXX; replace hb10 := hb10.ext hXX; replace hX := hX.ext hXX; replace hT := hT.ext hXX; replace hU := hU.ext hXX)
            refine SW.nil (Post.sf hXX ?_)
            refine SF.take 8 [] [] hRB rfl (by kernel_rfl) (by kernel_rfl) (by kernel_rfl) ?_
            repeat (refine SW.pure rfl rfl ?_)
            refine SW.tknil ?_
            refine SF.take 9 [] [] hRB rfl (by kernel_rfl) (by kernel_rfl) (by kernel_rfl) ?_
            repeat (refine SW.pure rfl rfl ?_)
            refine SW.tknil ?_
            refine SF.take2 10 [] hRB rfl (by kernel_rfl) (by kernel_rfl) (by kernel_rfl) (pureV_st rfl) (fun w2 hS => pureV_st rfl) rfl ?_
            refine SF.turn rfl (by kernel_rfl) rfl ?_
            refine SW.storeAgg hb10 rfl rfl rfl rfl (Enc.one (enc := encBk) y) fun w6 hb10' hg => ?_
            have hG := hb10.gr hg
            have hS : True := trivial
            replace hw := hw.own h10w hg
            replace hX := hX.grown hg (.inr hne10)
            (replace hb3 := hb3.grT hG rfl; replace hb6 := hb6.grT hG rfl; replace hb9 := hb9.grT hG rfl; replace hT := hT.grT hG rfl; replace hU := hU.grT hG rfl)
            refine SW.nil (Post.sg hS ?_)
            refine SG.last rfl (by kernel_rfl) (by kernel_rfl) ?_
            repeat' (first | (show CW _ _ _ _ _ _; refine CW.region ?_) | (show Post _ _ _ _ _; first | refine Post.seq ?_ | refine Post.blk ?_ | refine Post.np ?_) | refine SW.nil ?_ | refine SW.pure rfl rfl ?_ | (show SW _ _ _ _ (⟨_, Op.binOp _ _ _ _ _, _, _, _, none⟩ :: _) _ _; refine SW.st (st_add rfl rfl (by omega) (by omega)) rfl ?_))
            exact Post.again (1 + 1, true, y) ⟨rfl, rfl, rfl, rfl, rfl, rfl, rfl, rfl, rfl, rfl, trivial⟩ (by simp <;> omega) ⟨by simp only; omega, hw, hb3, hb6, hb9, hb10', hX, hT, hU, .inr ⟨k, hk, rfl, hy.symm, hko, hP⟩⟩
          ·repeat' (first | (show CW _ _ _ _ _ _; first | refine CW.seq ?_ | refine CW.region ?_ | refine CW.condfr rfl (by with_reducible rfl) ?_ | refine CW.exit ?_) | (show Post _ _ _ _ _; first | refine Post.seq ?_ | refine Post.seq_exit ?_ | refine Post.hit ?_ | refine Post.again_exit ?_) | refine SW.nil ?_ | (show SW _ _ _ _ (⟨_, _, _, _, _, some _⟩ :: _) _ _; first | refine SW.skip_t rfl rfl (by with_reducible rfl) rfl ?_ | refine SW.splitd_f rfl rfl rfl (by omega) ?_) | refine SW.pure rfl rfl ?_)
           exact Post.cutn (K := K2) (by rw [hK2]; exact ⟨false, x, ⟨rfl, rfl, rfl, rfl, rfl, rfl, rfl, rfl, trivial⟩, hw, hb3, hb6, hb9, hb10, hX, hT, .inl ⟨rfl, fun m h => hI m (by omega)⟩⟩)
         ·rcases (show v < 2 ∨ v = 2 by omega) with hv' | hv'
          all_goals
           repeat' (first | (show CW _ _ _ _ _ _; first | refine CW.seq ?_ | refine CW.region ?_ | refine CW.condfr rfl (by with_reducible rfl) ?_ | refine CW.condf rfl ?_ | refine CW.exit ?_) | (show Post _ _ _ _ _; first | refine Post.seq ?_ | refine Post.seq_exit ?_ | refine Post.hit ?_ | refine Post.again_exit ?_) | refine SW.nil ?_ | (show SW _ _ _ _ (⟨_, _, _, _, _, some _⟩ :: _) _ _; first | refine SW.want_t rfl rfl (by with_reducible rfl) ?_ | refine SW.skip_t rfl rfl (by with_reducible rfl) rfl ?_ | refine SW.splitd_t rfl rfl rfl (by omega) ?_ | refine SW.splitd_f rfl rfl rfl (by omega) ?_) | refine SW.pure rfl rfl ?_)
           exact Post.cutn (K := K2) (by rw [hK2]; exact ⟨true, x, ⟨rfl, rfl, rfl, rfl, rfl, rfl, rfl, rfl, trivial⟩, hw, hb3, hb6, hb9, hb10, hX, hT, .inr ⟨k, hk, rfl, hxk, hko, hP⟩⟩)
        ·clear hw hb3 hb6 hb9 hb10 hX hT hU hI ht1 ht2
         subst hK2
         rintro L' w' ⟨f, x, hsub, hw, hb3, hb6, hb9, hb10, hX, hT, hI⟩
         refine Post.sub hsub ?_
         clear hsub cLm cLh
         rcases hI with ⟨rfl, hI⟩ | ⟨k, hk, rfl, rfl, hko, hP⟩
         ·repeat' (first | (show CW _ _ _ _ _ _; first | refine CW.seq ?_ | refine CW.region ?_ | refine CW.condfr rfl (by with_reducible rfl) ?_ | refine CW.skip ?_) | (show Post _ _ _ _ _; first | refine Post.seq ?_ | refine Post.blk ?_) | refine SW.nil ?_ | (show SW _ _ _ _ (⟨_, _, _, _, _, some _⟩ :: _) _ _; refine SW.skip_t rfl rfl (by with_reducible rfl) rfl ?_) | refine SW.pure rfl rfl ?_ | (show SW _ _ _ _ (⟨_, Op.binOp _ _ _ _ _, _, _, _, none⟩ :: _) _ _; refine SW.st (st_sub rfl rfl (by omega) (by omega)) rfl ?_))
          exact Post.again (j + 1, false, x, z.Free, z.Types) ⟨rfl, rfl, rfl, rfl, rfl, rfl, rfl, congrArg (fun z => some (Value.int .i64 z)) (by simp only; omega), trivial⟩ (by simp <;> omega) ⟨hw, hb3, hb6, hb9, hb10, hX, hT, by simp only; omega, .inl ⟨rfl, hI, rfl, rfl⟩⟩
         ·by_cases hp2 : 4 - (j : Int) < 2
          ·obtain ⟨q1, q2, q3⟩ := takeF_low (z := z) (b := z.Free[k]) (t := t) (st := true) (by omega)
           repeat' (first | (show CW _ _ _ _ _ _; first | refine CW.seq ?_ | refine CW.region ?_ | refine CW.condd_f rfl (by omega) ?_ | refine CW.skip ?_) | (show Post _ _ _ _ _; first | refine Post.seq ?_ | refine Post.blk ?_) | refine SW.nil ?_ | (show SW _ _ _ _ (⟨_, _, _, _, _, some _⟩ :: _) _ _; refine SW.want_t rfl rfl (by with_reducible rfl) ?_) | refine SW.pure rfl rfl ?_ | (show SW _ _ _ _ (⟨_, Op.binOp _ _ _ _ _, _, _, _, none⟩ :: _) _ _; refine SW.st (st_sub rfl rfl (by omega) (by omega)) rfl ?_))
           exact Post.again (j + 1, true, z.Free[k], z.Free, z.Types) ⟨rfl, rfl, rfl, rfl, rfl, rfl, rfl, congrArg (fun z => some (Value.int .i64 z)) (by simp only; omega), trivial⟩ (by simp <;> omega) ⟨hw, hb3, hb6, hb9, hb10, hX, hT, by simp only; omega, .inr ⟨k, true, hk, rfl, by simp only [q3], hP, q1.symm, q2.symm⟩⟩
          ·have hp2' : 2 ≤ 4 - (j : Int) := by omega
           obtain ⟨⟨f1, f2, f3, f4, f5⟩, f6⟩ := hz.blk k hk
           have hcont : ∃ (k' : Nat) (st : Bool) (hk' : k' < z.Free.length), (⟨z.Free[k].At, z.Free[k].Order, t⟩ : Block) = ⟨z.Free[k'].At, z.Free[k'].Order, tySt z t st z.Free[k']⟩ ∧ PickR z.Free o t (some (k', st)) ∧ stFree z.Free z.Free[k] t = takeF z z.Free[k'] t st ∧ stTypes z z.Free[k] t = if st = true then stTypes z z.Free[k'] t else z.Types :=
            ⟨k, true, hk, by unfold tySt; rw [if_pos ⟨rfl, by omega⟩], hP, rfl, rfl⟩
           obtain ⟨x, hx⟩ : ∃ x, z.Free[k] = x := ⟨_, rfl⟩
           simp only [hx] at hko f1 f2 f3 f4 f5 hb10 hcont
           have cP : ∀ w', Ans Tryd.prog 30 [.int .i64 (4 - (j : Int))] w' fun v _ => v = .int .i64 (pw x.Order) := fun w' => by rw [hko]; exact power_ans _ (by omega) w'
           have hpx := pw_le f1 f2
           obtain ⟨hl1, hl2⟩ := stLast (b := x) (by omega) f2 f5
           have hgi : ∀ c : Nat, (x.At / 8 * 8 + 8 * (c : Int) - z.From) / 8 = ((stIdx z x + c : Nat) : Int) := fun c => by unfold stIdx; omega
           have hgb : ∀ c : Nat, c < grN x → stIdx z x + c < s.Types.n := fun c hc => by
            unfold grN at hc
            unfold stIdx
            have hlen := hz.len
            rcases pw_cases f1 f2 with ⟨e1, e2⟩ | ⟨e1, e2⟩ | ⟨e1, e2⟩ | ⟨e1, e2⟩ | ⟨e1, e2⟩ <;> rw [e2] at f5 <;> split at hc <;> omega
           have hg2 : grN x ≤ 2 := by unfold grN; split <;> omega
           repeat' (first | (show CW _ _ _ _ _ _; first | refine CW.seq ?_ | refine CW.region ?_ | refine CW.block ?_ | refine CW.condd_t rfl (by omega) ?_ | (apply CW.quiet1 mixed; (· kernel_rfl); rotate_left; intro w1 hw1; replace hw := Ext.trans hw hw1; replace hb3 := hb3.ext hw1; replace hb6 := hb6.ext hw1; replace hb9 := hb9.ext hw1; replace hb10 := hb10.ext hw1; replace hX := hX.ext hw1; replace hT := hT.ext hw1; clear hw1; rotate_right)) | (show Post _ _ _ _ _; refine Post.seq ?_) | refine SW.nil ?_ | (show SW _ _ _ _ (⟨_, _, _, _, _, some _⟩ :: _) _ _; refine SW.want_t rfl rfl (by with_reducible rfl) ?_) | refine SW.pure rfl rfl ?_ | (show SW _ _ _ _ (⟨_, Op.fieldAddr _ _ _, _, _, _, none⟩ :: _) _ _; refine SW.st (st_field rfl) rfl ?_) | (show SW _ _ _ _ (⟨_, Op.binOp _ _ _ _ _, _, _, _, none⟩ :: _) _ _; first | refine SW.st (st_add rfl rfl (by omega) (by omega)) rfl ?_ | refine SW.st (st_sub rfl rfl (by omega) (by omega)) rfl ?_ | refine SW.st (st_mul rfl rfl (by omega) (by omega)) rfl ?_ | refine SW.st (st_quo rfl rfl (by omega) (by omega) (by omega)) rfl ?_) | (show SW _ _ _ _ (⟨_, Op.load _ _, _, _, _, none⟩ :: _) _ _; refine SW.st (st_load rfl (hb10.cell (i := 0) (v := .int .i64 x.At) rfl)) rfl ?_) | (show SW _ _ _ _ (⟨_, Op.call ⟨.value (.func _), _, _⟩, _, _, _, none⟩ :: _) _ _; refine SW.qcall rfl rfl (fun w1 hw1 => (cP _)) ?_) | exact SW.qnil rfl)
           refine CW.loop (fun c : Nat => [(1, .int .i64 o), (2, .int .i64 t), (3, .pointer (some ⟨b3, 0, none⟩)), (6, .pointer (some ⟨b6, 0, none⟩)), (9, .pointer (some ⟨b9, 0, none⟩)), (10, .pointer (some ⟨b10, 0, none⟩)), (11, .bool true), (13, .int .i64 (4 - (j : Int))), (16, .int .i64 (x.At / 8 * 8)), (17, .int .i64 (stTo x - 8)), (18, .int .i64 (x.At / 8 * 8 + 8 * (c : Int)))])
            (fun c w' => c ≤ grN x ∧ Ext w w' ∧ Blk w' b3 25 (encZ r) ∧ Blk w' b6 25 (encZ .zero) ∧ Blk w' b9 25 (encZ s) ∧ Blk w' b10 55 (encBk x) ∧
             Own w' w.heap.size 55 3 encBk s.Free.A s.Free.n s.Free.c z.Free ∧ Own w' w.heap.size 3 1 encI s.Types.A s.Types.n s.Types.c (tyGr z.Types (stIdx z x) t c)) (fun c => grN x - c) 0
            ⟨rfl, rfl, rfl, rfl, rfl, rfl, rfl, rfl, rfl, congrArg (fun z => some (Value.int .i64 z)) hl1, congrArg (fun z => some (Value.int .i64 z)) (by omega), trivial⟩ ⟨by omega, hw, hb3, hb6, hb9, hb10, hX, hT⟩ ?_
           clear hw hb3 hb6 hb9 hb10 hX hT
           rintro c w' ⟨hc, hw, hb3, hb6, hb9, hb10, hX, hT⟩
           by_cases hcg : c < grN x
           ·have hgc := hgi c
            have hin := hgb c hcg
            have hAT := hT.sl.base
            repeat' (first | (show CW _ _ _ _ _ _; first | refine CW.seq ?_ | refine CW.region ?_ | refine CW.block ?_ | refine CW.condd_t rfl (by omega) ?_ | refine CW.skip ?_) | (show Post _ _ _ _ _; refine Post.seq ?_) | refine SW.nil ?_ | refine SW.pure rfl rfl ?_ | (show SW _ _ _ _ (⟨_, Op.fieldAddr _ _ _, _, _, _, none⟩ :: _) _ _; refine SW.st (st_field rfl) rfl ?_) | (show SW _ _ _ _ (⟨_, Op.binOp _ _ _ _ _, _, _, _, none⟩ :: _) _ _; first | refine SW.st (st_sub rfl rfl (by omega) (by omega)) rfl ?_ | refine SW.st (st_quo rfl rfl (by omega) (by omega) (by omega)) rfl ?_) | (show SW _ _ _ _ (⟨_, Op.indexAddr _ _ _, _, _, _, none⟩ :: _) _ _; refine SW.st (st_indexI (stIdx z x + c) rfl rfl (by assumption) (by omega) (by omega)) rfl ?_) | (show SW _ _ _ _ (⟨_, Op.load _ _, _, _, _, none⟩ :: _) _ _; first | refine SW.st (st_load rfl (hb9.cell (i := 3) (v := .slice s.Types.A s.Types.n s.Types.c) rfl)) rfl ?_ | refine SW.st (st_load rfl (hb3.cell (i := 0) (v := .int .i64 r.From) rfl)) rfl ?_))
            refine SW.storeI (stIdx z x + c) hT rfl rfl hin fun w5 hT' hg => ?_
            have hG := hT.gr hg
            replace hw := ext_grown hw hg (Nat.le_refl _) hT.row_ge
            (replace hb3 := hb3.grT hG rfl; replace hb6 := hb6.grT hG rfl; replace hb9 := hb9.grT hG rfl; replace hb10 := hb10.grT hG rfl; replace hX := hX.grT hG rfl)
            rw [tyGr_step (by omega)] at hT'
            repeat' (first | (show CW _ _ _ _ _ _; refine CW.region ?_) | (show Post _ _ _ _ _; first | refine Post.seq ?_ | refine Post.blk ?_) | refine SW.nil ?_ | refine SW.pure rfl rfl ?_ | (show SW _ _ _ _ (⟨_, Op.binOp _ _ _ _ _, _, _, _, none⟩ :: _) _ _; refine SW.st (st_add rfl rfl (by omega) (by omega)) rfl ?_))
            exact Post.again (c + 1) ⟨rfl, rfl, rfl, rfl, rfl, rfl, rfl, rfl, rfl, rfl, congrArg (fun z => some (Value.int .i64 z)) (by omega), trivial⟩ (by omega) ⟨by omega, hw, hb3, hb6, hb9, hb10, hX, hT'⟩
           ·obtain rfl : c = grN x := by omega
            rw [tyGr_all (by omega)] at hT
            repeat' (first | (show CW _ _ _ _ _ _; first | refine CW.seq ?_ | refine CW.region ?_ | refine CW.block ?_ | refine CW.condd_f rfl (by omega) ?_ | refine CW.exit ?_) | (show Post _ _ _ _ _; first | refine Post.seq ?_ | refine Post.seq_exit ?_ | refine Post.hit ?_ | refine Post.again_exit ?_) | refine SW.nil ?_ | refine SW.pure rfl rfl ?_)
            obtain ⟨f, hf⟩ : ∃ f, stB (x.At / 8 * 8) (stTo x) t = f := ⟨_, rfl⟩
            refine CW.loop (fun i : Nat => [(1, .int .i64 o), (2, .int .i64 t), (3, .pointer (some ⟨b3, 0, none⟩)), (6, .pointer (some ⟨b6, 0, none⟩)), (9, .pointer (some ⟨b9, 0, none⟩)), (10, .pointer (some ⟨b10, 0, none⟩)), (11, .bool true), (13, .int .i64 (4 - (j : Int))), (16, .int .i64 (x.At / 8 * 8)), (17, .int .i64 (stTo x - 8)), (19, .int .i64 (i : Int))])
             (fun i w' => i ≤ s.Free.n ∧ Ext w w' ∧ Blk w' b3 25 (encZ r) ∧ Blk w' b6 25 (encZ .zero) ∧ Blk w' b9 25 (encZ s) ∧ Blk w' b10 55 (encBk x) ∧
              Own w' w.heap.size 55 3 encBk s.Free.A s.Free.n s.Free.c (mapTo f z.Free i) ∧ Own w' w.heap.size 3 1 encI s.Types.A s.Types.n s.Types.c (stTypes z x t)) (fun i => s.Free.n - i) 0
             ⟨rfl, rfl, rfl, rfl, rfl, rfl, rfl, rfl, rfl, rfl, rfl, trivial⟩ ⟨by omega, hw, hb3, hb6, hb9, hb10, by rw [mapTo_zero]; exact hX, hT⟩ ?_
            clear hw hb3 hb6 hb9 hb10 hX hT hc hcg
            rintro i w' ⟨hi, hw, hb3, hb6, hb9, hb10, hX, hT⟩
            have hA := hX.sl.base
            by_cases hin : i < s.Free.n
            ·have hil : i < z.Free.length := by omega
             obtain ⟨g1, g2, g3, g4, g5⟩ := (hz.blk i hil).1
             obtain ⟨y, hy⟩ : ∃ y, z.Free[i] = y := ⟨_, rfl⟩
             have hget := mapTo_get (f := f) hil
             rw [hy] at g1 g2 g3 g4 g5 hget
             have hpy := pw_le g1 g2
             have y0 : ∀ w2, Own w2 w.heap.size 55 3 encBk s.Free.A s.Free.n s.Free.c (mapTo f z.Free i) → w2.cell? (((s.Free.A.getD default).add (i * 3)).add 0) = some (.int .i64 y.At) := fun w2 h => h.sl.fld hin (by rw [hget]; rfl)
             have y1 : ∀ w2, Own w2 w.heap.size 55 3 encBk s.Free.A s.Free.n s.Free.c (mapTo f z.Free i) → w2.cell? (((s.Free.A.getD default).add (i * 3)).add 1) = some (.int .i64 y.Order) := fun w2 h => h.sl.fld hin (by rw [hget]; rfl)
             have cY : ∀ w', Ans Tryd.prog 30 [.int .i64 y.Order] w' fun v _ => v = .int .i64 (pw y.Order) := fun w' => power_ans _ (by omega) w'
             by_cases hcond : x.At / 8 * 8 ≤ y.At ∧ y.At + pw y.Order ≤ stTo x
             ·have hfy : f y = ⟨y.At, y.Order, t⟩ := by rw [← hf]; unfold stB; rw [if_pos hcond]
              repeat' (first | (show CW _ _ _ _ _ _; first | refine CW.seq ?_ | refine CW.region ?_ | refine CW.block ?_ | refine CW.condd_t rfl (by omega) ?_ | refine CW.skip ?_ | (apply CW.quiet1 mixed; (· kernel_rfl); rotate_left; intro w1 hw1; replace hw := Ext.trans hw hw1; replace hb3 := hb3.ext hw1; replace hb6 := hb6.ext hw1; replace hb9 := hb9.ext hw1; replace hb10 := hb10.ext hw1; replace hX := hX.ext hw1; replace hT := hT.ext hw1; clear hw1; rotate_right)) | (show Post _ _ _ _ _; refine Post.seq ?_) | refine SW.nil ?_ | (show SW _ _ _ _ (⟨_, _, _, _, _, some _⟩ :: _) _ _; first | refine SW.want_t rfl rfl (by with_reducible rfl) ?_ | refine SW.splitd_t rfl rfl rfl (by omega) ?_) | refine SW.pure rfl rfl ?_ | (show SW _ _ _ _ (⟨_, Op.fieldAddr _ _ _, _, _, _, none⟩ :: _) _ _; refine SW.st (st_field rfl) rfl ?_) | (show SW _ _ _ _ (⟨_, Op.binOp _ _ _ _ _, _, _, _, none⟩ :: _) _ _; refine SW.st (st_add rfl rfl (by omega) (by omega)) rfl ?_) | (show SW _ _ _ _ (⟨_, Op.indexAddr _ _ _, _, _, _, none⟩ :: _) _ _; refine SW.st (st_indexN rfl rfl (by assumption) (by omega)) rfl ?_) | (show SW _ _ _ _ (⟨_, Op.call ⟨.builtin .len, _, _⟩, _, _, _, none⟩ :: _) _ _; refine SW.st (st_len rfl) rfl ?_) | (show SW _ _ _ _ (⟨_, Op.load _ _, _, _, _, none⟩ :: _) _ _; first | refine SW.st (st_load rfl (hb9.cell (i := 2) (v := .slice s.Free.A s.Free.n s.Free.c) rfl)) rfl ?_ | refine SW.st (st_load rfl (y0 _ hX)) rfl ?_ | refine SW.st (st_load rfl (y1 _ hX)) rfl ?_) | (show SW _ _ _ _ (⟨_, Op.call ⟨.value (.func _), _, _⟩, _, _, _, none⟩ :: _) _ _; first | refine SW.qcall rfl rfl (fun w1 hw1 => (In_ans _ _ _ _)) ?_ | refine SW.qcall rfl rfl (fun w1 hw1 => (cY _)) ?_) | exact SW.qnil rfl)
              all_goals first | (exfalso; omega) | skip
              refine SW.storeO i 2 ⟨y.At, y.Order, t⟩ hX rfl rfl rfl hin (by decide) rfl (by rw [hget]; rfl) fun w5 hX' hg => ?_
              have hG := hX.gr hg
              replace hw := ext_grown hw hg (Nat.le_refl _) hX.row_ge
              replace hb10 := hb10.grown hg (fun e => hne10 e.symm)
              (replace hb3 := hb3.grT hG rfl; replace hb6 := hb6.grT hG rfl; replace hb9 := hb9.grT hG rfl; replace hT := hT.grT hG rfl)
              rw [← hfy, ← hy, mapTo_set hil] at hX'
              repeat' (first | (show CW _ _ _ _ _ _; refine CW.region ?_) | (show Post _ _ _ _ _; first | refine Post.seq ?_ | refine Post.blk ?_) | refine SW.nil ?_ | refine SW.pure rfl rfl ?_ | (show SW _ _ _ _ (⟨_, Op.binOp _ _ _ _ _, _, _, _, none⟩ :: _) _ _; refine SW.st (st_add rfl rfl (by omega) (by omega)) rfl ?_))
              exact Post.again (i + 1) ⟨rfl, rfl, rfl, rfl, rfl, rfl, rfl, rfl, rfl, rfl, rfl, trivial⟩ (by omega) ⟨by omega, hw, hb3, hb6, hb9, hb10, hX', hT⟩
             ·have hfy : f y = y := by rw [← hf]; unfold stB; rw [if_neg hcond]
              have hsk := mapTo_skip (f := f) hil (by rw [hy]; exact hfy)
              obtain ⟨bI, hbI⟩ : ∃ bI, decide (x.At / 8 * 8 ≤ y.At ∧ y.At ≤ stTo x - 8 + 7) = bI := ⟨_, rfl⟩
              have cI : ∀ w', Ans Tryd.prog 27 [.int .i64 y.At, .int .i64 (x.At / 8 * 8), .int .i64 (stTo x - 8 + 7)] w' fun v _ => v = .bool bI := fun w' => by
               have := In_ans y.At (x.At / 8 * 8) (stTo x - 8 + 7) w'
               rwa [hbI] at this
              cases bI
              ·repeat' (first | (show CW _ _ _ _ _ _; first | refine CW.seq ?_ | refine CW.region ?_ | refine CW.block ?_ | refine CW.condfr rfl (by with_reducible rfl) ?_ | refine CW.condd_t rfl (by omega) ?_ | refine CW.skip ?_ | (apply CW.quiet1 mixed; (· kernel_rfl); rotate_left; intro w1 hw1; replace hw := Ext.trans hw hw1; replace hb3 := hb3.ext hw1; replace hb6 := hb6.ext hw1; replace hb9 := hb9.ext hw1; replace hb10 := hb10.ext hw1; replace hX := hX.ext hw1; replace hT := hT.ext hw1; clear hw1; rotate_right)) | (show Post _ _ _ _ _; first | refine Post.seq ?_ | refine Post.blk ?_) | refine SW.nil ?_ | (show SW _ _ _ _ (⟨_, _, _, _, _, some _⟩ :: _) _ _; refine SW.skip_t rfl rfl (by with_reducible rfl) rfl ?_) | refine SW.pure rfl rfl ?_ | (show SW _ _ _ _ (⟨_, Op.fieldAddr _ _ _, _, _, _, none⟩ :: _) _ _; refine SW.st (st_field rfl) rfl ?_) | (show SW _ _ _ _ (⟨_, Op.binOp _ _ _ _ _, _, _, _, none⟩ :: _) _ _; refine SW.st (st_add rfl rfl (by omega) (by omega)) rfl ?_) | (show SW _ _ _ _ (⟨_, Op.indexAddr _ _ _, _, _, _, none⟩ :: _) _ _; refine SW.st (st_indexN rfl rfl (by assumption) (by omega)) rfl ?_) | (show SW _ _ _ _ (⟨_, Op.call ⟨.builtin .len, _, _⟩, _, _, _, none⟩ :: _) _ _; refine SW.st (st_len rfl) rfl ?_) | (show SW _ _ _ _ (⟨_, Op.load _ _, _, _, _, none⟩ :: _) _ _; first | refine SW.st (st_load rfl (hb9.cell (i := 2) (v := .slice s.Free.A s.Free.n s.Free.c) rfl)) rfl ?_ | refine SW.st (st_load rfl (y0 _ hX)) rfl ?_) | (show SW _ _ _ _ (⟨_, Op.call ⟨.value (.func _), _, _⟩, _, _, _, none⟩ :: _) _ _; refine SW.qcall rfl rfl (fun w1 hw1 => (cI _)) ?_) | exact SW.qnil rfl)
               exact Post.again (i + 1) ⟨rfl, rfl, rfl, rfl, rfl, rfl, rfl, rfl, rfl, rfl, rfl, trivial⟩ (by omega) ⟨by omega, hw, hb3, hb6, hb9, hb10, by rw [hsk]; exact hX, hT⟩
              ·have hI2 := of_decide_eq_true hbI
               repeat' (first | (show CW _ _ _ _ _ _; first | refine CW.seq ?_ | refine CW.region ?_ | refine CW.block ?_ | refine CW.condd_t rfl (by omega) ?_ | refine CW.condd_f rfl (by omega) ?_ | refine CW.skip ?_ | (apply CW.quiet1 mixed; (· kernel_rfl); rotate_left; intro w1 hw1; replace hw := Ext.trans hw hw1; replace hb3 := hb3.ext hw1; replace hb6 := hb6.ext hw1; replace hb9 := hb9.ext hw1; replace hb10 := hb10.ext hw1; replace hX := hX.ext hw1; replace hT := hT.ext hw1; clear hw1; rotate_right)) | (show Post _ _ _ _ _; first | refine Post.seq ?_ | refine Post.blk ?_) | refine SW.nil ?_ | (show SW _ _ _ _ (⟨_, _, _, _, _, some _⟩ :: _) _ _; refine SW.want_t rfl rfl (by with_reducible rfl) ?_) | refine SW.pure rfl rfl ?_ | (show SW _ _ _ _ (⟨_, Op.fieldAddr _ _ _, _, _, _, none⟩ :: _) _ _; refine SW.st (st_field rfl) rfl ?_) | (show SW _ _ _ _ (⟨_, Op.binOp _ _ _ _ _, _, _, _, none⟩ :: _) _ _; refine SW.st (st_add rfl rfl (by omega) (by omega)) rfl ?_) | (show SW _ _ _ _ (⟨_, Op.indexAddr _ _ _, _, _, _, none⟩ :: _) _ _; refine SW.st (st_indexN rfl rfl (by assumption) (by omega)) rfl ?_) | (show SW _ _ _ _ (⟨_, Op.call ⟨.builtin .len, _, _⟩, _, _, _, none⟩ :: _) _ _; refine SW.st (st_len rfl) rfl ?_) | (show SW _ _ _ _ (⟨_, Op.load _ _, _, _, _, none⟩ :: _) _ _; first | refine SW.st (st_load rfl (hb9.cell (i := 2) (v := .slice s.Free.A s.Free.n s.Free.c) rfl)) rfl ?_ | refine SW.st (st_load rfl (y0 _ hX)) rfl ?_ | refine SW.st (st_load rfl (y1 _ hX)) rfl ?_) | (show SW _ _ _ _ (⟨_, Op.call ⟨.value (.func _), _, _⟩, _, _, _, none⟩ :: _) _ _; first | refine SW.qcall rfl rfl (fun w1 hw1 => (cI _)) ?_ | refine SW.qcall rfl rfl (fun w1 hw1 => (cY _)) ?_) | exact SW.qnil rfl)
               exact Post.again (i + 1) ⟨rfl, rfl, rfl, rfl, rfl, rfl, rfl, rfl, rfl, rfl, rfl, trivial⟩ (by omega) ⟨by omega, hw, hb3, hb6, hb9, hb10, by rw [hsk]; exact hX, hT⟩
            ·obtain rfl : i = s.Free.n := by omega
             rw [es, mapTo_all, ← hf] at hX
             have hX2 : Own w' w.heap.size 55 3 encBk s.Free.A s.Free.n s.Free.c (stFree z.Free x t) := by rw [stFree, if_neg (by omega), es]; exact hX
             repeat' (first | (show CW _ _ _ _ _ _; first | refine CW.seq ?_ | refine CW.region ?_ | refine CW.condd_f rfl (by omega) ?_ | refine CW.exit ?_) | (show Post _ _ _ _ _; first | refine Post.seq ?_ | refine Post.seq_exit ?_ | refine Post.hit ?_ | refine Post.again_exit ?_) | refine SW.nil ?_ | refine SW.pure rfl rfl ?_ | (show SW _ _ _ _ (⟨_, Op.fieldAddr _ _ _, _, _, _, none⟩ :: _) _ _; refine SW.st (st_field rfl) rfl ?_) | (show SW _ _ _ _ (⟨_, Op.call ⟨.builtin .len, _, _⟩, _, _, _, none⟩ :: _) _ _; refine SW.st (st_len rfl) rfl ?_) | (show SW _ _ _ _ (⟨_, Op.load _ _, _, _, _, none⟩ :: _) _ _; refine SW.st (st_load rfl (hb9.cell (i := 2) (v := .slice s.Free.A s.Free.n s.Free.c) rfl)) rfl ?_))
             refine SW.storeB (i := 2) hb10 rfl rfl rfl rfl fun w6 hb10' hg => ?_
             have hG := hb10.gr hg
             replace hw := hw.own h10w hg
             replace hX2 := hX2.grown hg (.inr hne10)
             (replace hb3 := hb3.grT hG rfl; replace hb6 := hb6.grT hG rfl; replace hb9 := hb9.grT hG rfl; replace hT := hT.grT hG rfl)
             repeat' (first | (show CW _ _ _ _ _ _; refine CW.region ?_) | (show Post _ _ _ _ _; first | refine Post.seq ?_ | refine Post.blk ?_) | refine SW.nil ?_ | refine SW.pure rfl rfl ?_ | (show SW _ _ _ _ (⟨_, Op.binOp _ _ _ _ _, _, _, _, none⟩ :: _) _ _; refine SW.st (st_sub rfl rfl (by omega) (by omega)) rfl ?_))
             exact Post.again (j + 1, true, ⟨x.At, x.Order, t⟩, stFree z.Free x t, stTypes z x t) ⟨rfl, rfl, rfl, rfl, rfl, rfl, rfl, congrArg (fun z => some (Value.int .i64 z)) (by simp only; omega), trivial⟩ (by simp <;> omega) ⟨hw, hb3, hb6, hb9, hb10', hX2, hT, by simp only; omega, .inr (by obtain ⟨k', st, hk', e1, e2, e3, e4⟩ := hcont; exact ⟨k', st, hk', rfl, e1, e2, e3, e4⟩)⟩
       ·repeat' (first | (show CW _ _ _ _ _ _; first | refine CW.seq ?_ | refine CW.region ?_ | refine CW.condfr rfl (by with_reducible rfl) ?_ | refine CW.exit ?_) | (show Post _ _ _ _ _; first | refine Post.seq ?_ | refine Post.seq_exit ?_ | refine Post.hit ?_ | refine Post.again_exit ?_) | refine SW.nil ?_ | (show SW _ _ _ _ (⟨_, _, _, _, _, some _⟩ :: _) _ _; first | refine SW.skip_t rfl rfl (by with_reducible rfl) rfl ?_ | refine SW.splitd_f rfl rfl rfl (by omega) ?_) | refine SW.pure rfl rfl ?_)
        have hT0 : ∀ m, m < 15 → testN z.Free o t m = false := fun m hm => by
         by_cases e : m < 5 + 2 * j
         ·exact hI m e
         ·exact test_low (j := j) (by omega) (by omega)
        exact Post.cutn (K := K) (by rw [hK]; exact ⟨false, x, z.Free, z.Types, ⟨rfl, rfl, rfl, rfl, rfl, rfl, rfl, trivial⟩, hw, hb3, hb6, hb9, hb10, hX, hT, .inl ⟨rfl, hT0⟩⟩)
      ·by_cases hp : o ≤ 4 - (j : Int)
       all_goals
        repeat' (first | (show CW _ _ _ _ _ _; first | refine CW.seq ?_ | refine CW.region ?_ | refine CW.condfr rfl (by with_reducible rfl) ?_ | refine CW.condf rfl ?_ | refine CW.exit ?_) | (show Post _ _ _ _ _; first | refine Post.seq ?_ | refine Post.seq_exit ?_ | refine Post.hit ?_ | refine Post.again_exit ?_) | refine SW.nil ?_ | (show SW _ _ _ _ (⟨_, _, _, _, _, some _⟩ :: _) _ _; first | refine SW.want_t rfl rfl (by with_reducible rfl) ?_ | refine SW.skip_t rfl rfl (by with_reducible rfl) rfl ?_ | refine SW.splitd_t rfl rfl rfl (by omega) ?_ | refine SW.splitd_f rfl rfl rfl (by omega) ?_) | refine SW.pure rfl rfl ?_)
        exact Post.cutn (K := K) (by rw [hK]; exact ⟨true, x, F, T, ⟨rfl, rfl, rfl, rfl, rfl, rfl, rfl, trivial⟩, hw, hb3, hb6, hb9, hb10, hX, hT, .inr ⟨k, st, hk, rfl, hxk, hP, hF, hTT⟩⟩)
     ·clear hw hb3 hb6 hb9 hb10 hX hT hI0
      subst hK
      rintro L' w' ⟨f, x, F, T, hsub, hw, hb3, hb6, hb9, hb10, hX, hT, hI⟩
      refine Post.sub hsub ?_
      clear hsub cLm cLh
      rcases hI with ⟨rfl, hI⟩ | ⟨k, st, hk, rfl, rfl, hP, rfl, hTT⟩
      ·repeat' (first | (show CW _ _ _ _ _ _; first | refine CW.seq ?_ | refine CW.region ?_ | refine CW.condt rfl ?_) | (show Post _ _ _ _ _; refine Post.seq ?_) | refine SW.nil ?_ | refine SW.pure rfl rfl ?_ | (show SW _ _ _ _ (⟨_, Op.build _ _, _, _, _, none⟩ :: _) _ _; refine SW.st (st_build rfl rfl) rfl ?_))
       refine SW.storeAgg hb6 rfl rfl rfl rfl (one_z .zero) fun w5 hR2 hg => ?_
       replace hw := hw.own hb6w hg
       repeat' (first | (show CW _ _ _ _ _ _; refine CW.ret ?_) | (show Post _ _ _ _ _; first | refine Post.seq ?_ | refine Post.seq_ret ?_) | refine SW.nil ?_ | refine SW.pure rfl rfl ?_)
       exact Post.ret3c rfl rfl rfl rfl hR2 rfl ⟨_, rfl, hw, _, .room hq ho hty (.miss hI), TakeOut.zero 6 _ _⟩
      ·obtain ⟨_, po1, po2⟩ := hP.ord
       obtain ⟨l1, l2, l3⟩ := takeF_ok hz (b := z.Free[k]) hty st
       have hkF : k < (takeF z z.Free[k] t st).length := by omega
       have hFk : (takeF z z.Free[k] t st)[k] = ⟨z.Free[k].At, z.Free[k].Order, tySt z t st z.Free[k]⟩ := takeF_get hz hty st hk
       obtain ⟨⟨f1, f2, f3, f4, f5⟩, f6⟩ := hz.blk k hk
       have hok : TakeR z o t (takenZ z o t z.Free[k] k st, z.Free[k].At, 0) := .ok hq ho hty hk hP
       have hJ := jok_erase l2 l3 hkF
       have her : (takeF z z.Free[k] t st).eraseIdx k = without (takeF z z.Free[k] t st) z.Free[k].At z.Free[k].Order := erase_without l2 l3 hkF (by rw [hFk]) (by rw [hFk])
       rw [hFk] at hJ
       have htt : tyOk (tySt z t st z.Free[k]) := by unfold tySt; split <;> assumption
       obtain ⟨ty, hte⟩ : ∃ ty, tySt z t st z.Free[k] = ty := ⟨_, rfl⟩
       have hTZ : takenZ z o t z.Free[k] k st = ⟨z.From, z.To, splitL ty z.Free[k].At (z.Free[k].Order - o).toNat z.Free[k].Order ((takeF z z.Free[k] t st).eraseIdx k), T⟩ := by
        rw [hTT, ← hte]; rfl
       rw [hTZ] at hok
       rw [hte] at hb10 htt
       clear hTZ hte hTT hP hFk l2 l3
       obtain ⟨F, hF⟩ : ∃ F, takeF z z.Free[k] t st = F := ⟨_, rfl⟩
       simp only [hF] at hX l1 hkF hJ hok her
       obtain ⟨x, hx⟩ : ∃ x, z.Free[k] = x := ⟨_, rfl⟩
       simp only [hx] at hJ hok f1 f2 f3 f4 f5 po1 po2 her hb10
       clear f6
       repeat' (first | (show CW _ _ _ _ _ _; first | refine CW.seq ?_ | refine CW.region ?_ | refine CW.condf rfl ?_ | refine CW.skip ?_) | (show Post _ _ _ _ _; refine Post.seq ?_) | refine SW.nil ?_ | refine SW.pure rfl rfl ?_ | (show SW _ _ _ _ (⟨_, Op.fieldAddr _ _ _, _, _, _, none⟩ :: _) _ _; refine SW.st (st_field rfl) rfl ?_) | (show SW _ _ _ _ (⟨_, Op.load _ _, _, _, _, none⟩ :: _) _ _; first | refine SW.st (st_load rfl (hb9.cell (i := 2) (v := .slice s.Free.A s.Free.n s.Free.c) rfl)) rfl ?_ | refine SW.st (st_load rfl (hb10.cell (i := 0) (v := .int .i64 x.At) rfl)) rfl ?_ | refine SW.st (st_load rfl (hb10.cell (i := 1) (v := .int .i64 x.Order) rfl)) rfl ?_))
       refine SW.call rfl rfl (without_ans s.Free.A s.Free.n s.Free.c F x.At x.Order _ hX.sl (by omega)) fun v w5 hXX hv => ?_
       obtain ⟨B, c', rfl, hW⟩ := hv
       rw [← her] at hW
       rw [← her]
       replace hW := hW.low hw.size
       (replace hw := Ext.trans hw hXX; replace hb3 := hb3.ext hXX; replace hb6 := hb6.ext hXX; replace hb9 := hb9.ext hXX; replace hb10 := hb10.ext hXX; replace hT := hT.ext hXX)
       clear hX
       repeat' (first | refine SW.pure rfl rfl ?_ | (show SW _ _ _ _ (⟨_, Op.fieldAddr _ _ _, _, _, _, none⟩ :: _) _ _; refine SW.st (st_field rfl) rfl ?_))
       refine SW.storeB (i := 2) hb9 rfl rfl rfl rfl fun w7 hb9' hg => ?_
       have hG := hb9.gr hg
       replace hw := hw.own h9w hg
       replace hb6 := hb6.grown hg (by simpa using hne69)
       (replace hb10 := hb10.grT hG rfl; replace hW := hW.grT hG rfl; replace hT := hT.grT hG rfl)
       replace hb9 : Blk w7 b9 25 [.int .i64 s.From, .int .i64 s.To, .slice B (F.eraseIdx k).length c', .slice s.Types.A s.Types.n s.Types.c] := hb9'
       replace hb10 : Blk w7 b10 55 [.int .i64 x.At, .int .i64 x.Order, .int .i64 ty] := hb10
       clear hb9' hg hG hb3
       have hlF : (F.eraseIdx k).length ≤ F.length := List.length_eraseIdx_le F k
       repeat' (first | (show CW _ _ _ _ _ _; first | refine CW.seq ?_ | refine CW.region ?_ | refine CW.block ?_) | (show Post _ _ _ _ _; refine Post.seq ?_) | refine SW.nil ?_ | refine SW.pure rfl rfl ?_ | (show SW _ _ _ _ (⟨_, Op.fieldAddr _ _ _, _, _, _, none⟩ :: _) _ _; refine SW.st (st_field rfl) rfl ?_) | (show SW _ _ _ _ (⟨_, Op.binOp _ _ _ _ _, _, _, _, none⟩ :: _) _ _; refine SW.st (st_sub rfl rfl (by omega) (by omega)) rfl ?_) | (show SW _ _ _ _ (⟨_, Op.load _ _, _, _, _, none⟩ :: _) _ _; refine SW.st (st_load rfl (hb10.cell (i := 1) (v := .int .i64 x.Order) rfl)) rfl ?_))
       obtain ⟨FIN, hFIN⟩ : ∃ FIN, splitL ty x.At (x.Order - o).toNat x.Order (F.eraseIdx k) = FIN := ⟨_, rfl⟩
       rw [hFIN] at hok
       refine CW.loop (fun u : Int × List Block × Option Addr × Nat => [(1, .int .i64 o), (6, .pointer (some ⟨b6, 0, none⟩)), (9, .pointer (some ⟨b9, 0, none⟩)), (10, .pointer (some ⟨b10, 0, none⟩)), (20, .int .i64 (u.1 - 1))])
        (fun u w' => Ext w w' ∧ Blk w' b9 25 [.int .i64 s.From, .int .i64 s.To, .slice u.2.2.1 u.2.1.length u.2.2.2, .slice s.Types.A s.Types.n s.Types.c] ∧ Blk w' b6 25 (encZ .zero) ∧ Blk w' b10 55 [.int .i64 x.At, .int .i64 x.Order, .int .i64 ty] ∧
         Own w' w.heap.size 55 3 encBk u.2.2.1 u.2.1.length u.2.2.2 u.2.1 ∧ Own w' w.heap.size 3 1 encI s.Types.A s.Types.n s.Types.c T ∧ JOk z.From z.To u.2.1 x.At u.1 ∧ o ≤ u.1 ∧ splitL ty x.At (u.1 - o).toNat u.1 u.2.1 = FIN ∧ (u.2.1.length : Int) + u.1 ≤ 300) (fun u => (u.1 - o).toNat) (x.Order, F.eraseIdx k, B, c')
        ⟨rfl, rfl, rfl, rfl, rfl, trivial⟩ ⟨hw, hb9, hb6, hb10, hW, hT, hJ, po1, hFIN, by simp only; omega⟩ ?_
       clear hw hb9 hb6 hb10 hW hT hJ
       rintro ⟨q, l, A, c⟩ w' ⟨hw, hb9, hb6, hb10, hX, hT, hJ, hqo, hfin, hlen⟩
       simp only at hb9 hX hJ hqo hfin hlen ⊢
       have hq4 := hJ.fit.2.1
       by_cases hqq : o < q
       ·obtain ⟨k1, k2, k3, k4, k5⟩ := hJ.fit
        obtain ⟨hJ2, hnea⟩ := jok_half hJ o1 o3 o5 (by omega) htt
        rw [show (q - o).toNat = (q - 1 - o).toNat + 1 by omega, splitL] at hfin
        have hp1 := pw_le (o := q - 1) (by omega) (by omega)
        have hgt := gt_lb hnea
        have cP : ∀ w', Ans Tryd.prog 30 [.int .i64 (q - 1)] w' fun v _ => v = .int .i64 (pw (q - 1)) := fun w' => power_ans _ (by omega) w'
        have hhl := halfL_len ty x.At q l
        repeat' (first | (show CW _ _ _ _ _ _; first | refine CW.seq ?_ | refine CW.region ?_ | refine CW.block ?_ | refine CW.condd_t rfl (by omega) ?_ | refine CW.skip ?_) | (show Post _ _ _ _ _; refine Post.seq ?_) | refine SW.nil ?_ | refine SW.pure rfl rfl ?_)
        refine CW.any 12 mixed (rb_tail (by kernel_rfl)) rfl fun w1 hw1 hRB => ?_
        replace hw := Ext.trans hw hw1; replace hb6 := hb6.ext hw1; replace hb9 := hb9.ext hw1; replace hb10 := hb10.ext hw1; replace hX := hX.ext hw1; replace hT := hT.ext hw1; clear hw1
        refine SA.take 0 hRB rfl (by kernel_rfl) (by kernel_rfl) rfl ?_
        repeat ((show SW _ _ _ _ (⟨_, Op.fieldAddr _ _ _, _, _, _, none⟩ :: _) _ _; refine SW.st (st_field rfl) rfl ?_))
        refine SW.tknil ?_
        refine SA.take 1 hRB rfl (by kernel_rfl) (by kernel_rfl) rfl ?_
        repeat ((show SW _ _ _ _ (⟨_, Op.load _ _, _, _, _, none⟩ :: _) _ _; refine SW.st (st_load rfl (hb9.cell (i := 2) (v := .slice A l.length c) rfl)) rfl ?_))
        refine SW.tknil ?_
        refine SA.take 2 hRB rfl (by kernel_rfl) (by kernel_rfl) rfl ?_
        repeat ((show SW _ _ _ _ (⟨_, Op.fieldAddr _ _ _, _, _, _, none⟩ :: _) _ _; refine SW.st (st_field rfl) rfl ?_))
        refine SW.tknil ?_
        refine SA.take 3 hRB rfl (by kernel_rfl) (by kernel_rfl) rfl ?_
        repeat ((show SW _ _ _ _ (⟨_, Op.load _ _, _, _, _, none⟩ :: _) _ _; refine SW.st (st_load rfl (hb10.cell (i := 0) (v := .int .i64 x.At) rfl)) rfl ?_))
        refine SW.tknil ?_
        refine SA.take 4 hRB rfl (by kernel_rfl) (by kernel_rfl) rfl ?_
        repeat (refine SW.pure rfl rfl ?_)
        refine SW.tknil ?_
        refine SA.take 7 hRB rfl (by kernel_rfl) (by kernel_rfl) rfl ?_
        repeat (refine SW.pure rfl rfl ?_)
        refine SW.tknil ?_
        refine SA.take 8 hRB rfl (by kernel_rfl) (by kernel_rfl) rfl ?_
        repeat ((show SW _ _ _ _ (⟨_, Op.fieldAddr _ _ _, _, _, _, none⟩ :: _) _ _; refine SW.st (st_field rfl) rfl ?_))
        refine SW.tknil ?_
        refine SA.take 9 hRB rfl (by kernel_rfl) (by kernel_rfl) rfl ?_
        repeat ((show SW _ _ _ _ (⟨_, Op.load _ _, _, _, _, none⟩ :: _) _ _; refine SW.st (st_load rfl (hb10.cell (i := 2) (v := .int .i64 ty) rfl)) rfl ?_))
        refine SW.tknil ?_
        refine SA.one 5 rfl (by kernel_rfl) rfl ?_
        refine SW.call rfl rfl (cP _) fun v w4 hXX hv => ?_
        subst hv
        (replace hw := Ext.trans hw hXX; replace hb6 := hb6.ext hXX; replace hb9 := hb9.ext hXX; replace hb10 := hb10.ext hXX; replace hX := hX.ext hXX; replace hT := hT.ext hXX)
        refine SW.nil (Post.sa hXX ?_)
        refine SA.take 6 hRB rfl (by kernel_rfl) (by kernel_rfl) rfl ?_
        repeat ((show SW _ _ _ _ (⟨_, Op.binOp _ _ _ _ _, _, _, _, none⟩ :: _) _ _; refine SW.st (st_add rfl rfl (by omega) (by omega)) rfl ?_))
        refine SW.tknil ?_
        refine SA.take 10 hRB rfl (by kernel_rfl) (by kernel_rfl) rfl ?_
        repeat ((show SW _ _ _ _ (⟨_, Op.build _ _, _, _, _, none⟩ :: _) _ _; refine SW.st (st_build rfl rfl) rfl ?_))
        refine SW.tknil ?_
        refine SA.one 11 rfl (by kernel_rfl) rfl ?_
        refine SW.call rfl rfl (withBlock_ans A l.length c l ⟨x.At + pw (q - 1), q - 1, ty⟩ _ hX.sl (by omega)) fun v w4 hXX hv => ?_
        obtain ⟨B2, c2, rfl, hO2⟩ := hv
        replace hO2 := hO2.low hw.size
        (replace hw := Ext.trans hw hXX; replace hb6 := hb6.ext hXX; replace hb9 := hb9.ext hXX; replace hb10 := hb10.ext hXX; replace hT := hT.ext hXX)
        refine SW.nil (Post.sa hXX ?_)
        refine SA.done (by kernel_rfl) ?_
        rw [hgt] at hO2
        replace hO2 : Own _ w.heap.size 55 3 encBk B2 (l.length + 1) c2 (halfL ty x.At q l) := hO2
        rw [← hhl] at hO2
        rw [← hhl]
        repeat' ((show SW _ _ _ _ (⟨_, Op.fieldAddr _ _ _, _, _, _, none⟩ :: _) _ _; refine SW.st (st_field rfl) rfl ?_))
        refine SW.storeB (i := 2) hb9 rfl rfl rfl rfl fun w8 hb9' hg => ?_
        have hG := hb9.gr hg
        replace hw := hw.own h9w hg
        replace hb6 := hb6.grown hg (by simpa using hne69)
        (replace hb10 := hb10.grT hG rfl; replace hO2 := hO2.grT hG rfl; replace hT := hT.grT hG rfl)
        repeat' (first | (show CW _ _ _ _ _ _; refine CW.region ?_) | (show Post _ _ _ _ _; first | refine Post.seq ?_ | refine Post.blk ?_ | refine Post.np ?_) | refine SW.nil ?_ | refine SW.pure rfl rfl ?_ | (show SW _ _ _ _ (⟨_, Op.binOp _ _ _ _ _, _, _, _, none⟩ :: _) _ _; refine SW.st (st_sub rfl rfl (by omega) (by omega)) rfl ?_))
        exact Post.again (q - 1, halfL ty x.At q l, B2, c2) ⟨rfl, rfl, rfl, rfl, rfl, trivial⟩ (by simp only; omega) ⟨hw, hb9', hb6, hb10, hO2, hT, hJ2, by simp only; omega, hfin, by simp only; omega⟩
       ·obtain rfl : o = q := by omega
        have hfin2 : l = FIN := by
         rw [← hfin, show (o - o).toNat = 0 by omega]; rfl
        rw [hfin2] at hX
        rw [hfin2] at hb9
        repeat' (first | (show CW _ _ _ _ _ _; first | refine CW.seq ?_ | refine CW.region ?_ | refine CW.condd_f rfl (by omega) ?_ | refine CW.exit ?_) | (show Post _ _ _ _ _; first | refine Post.seq ?_ | refine Post.seq_exit ?_ | refine Post.hit ?_ | refine Post.again_exit ?_) | refine SW.nil ?_ | refine SW.pure rfl rfl ?_)
        refine CW.anyF 3 5 (fun w2 => Blk w2 b10 55 [.int .i64 x.At, .int .i64 x.Order, .int .i64 ty]) mixed (by kernel_rfl) fun w1 hw1 hRB => ?_
        replace hw := Ext.trans hw hw1; replace hb6 := hb6.ext hw1; replace hb9 := hb9.ext hw1; replace hb10 := hb10.ext hw1; replace hX := hX.ext hw1; replace hT := hT.ext hw1; clear hw1
        refine SF.take 0 [] [] hRB rfl (by kernel_rfl) (by kernel_rfl) (by kernel_rfl) ?_
        repeat ((show SW _ _ _ _ (⟨_, Op.load _ _, _, _, _, none⟩ :: _) _ _; refine SW.st (st_loads rfl rfl ((fun _ _ => hb9.cell))) rfl ?_))
        refine SW.tknil ?_
        refine SF.take2 1 [] hRB rfl (by kernel_rfl) (by kernel_rfl) (by kernel_rfl) (st_field rfl) (fun w2 hS => st_field rfl) rfl ?_
        refine SF.take2 2 [] hRB rfl (by kernel_rfl) (by kernel_rfl) (by kernel_rfl) (st_load rfl (hb10.cell (i := 0) (v := .int .i64 x.At) rfl)) (fun w2 hS => st_load rfl (hS.cell (i := 0) (v := .int .i64 x.At) rfl)) rfl ?_
        refine SF.turn rfl (by kernel_rfl) rfl ?_
        refine SW.storeAgg hb6 rfl rfl rfl rfl (one_z ⟨s.From, s.To, ⟨A, FIN.length, c⟩, s.Types⟩) fun w5 hR2 hg => ?_
        have hG := hb6.gr hg
        have hS := hb10.grT hG rfl
        replace hw := hw.own hb6w hg
        (replace hX := hX.grT hG rfl; replace hT := hT.grT hG rfl)
        refine SW.nil (Post.sg hS ?_)
        refine SG.one 4 rfl (by kernel_rfl) rfl ?_
        repeat (refine SW.pure rfl rfl ?_)
        refine SW.nil (Post.sg hS ?_)
        refine SG.last rfl (by kernel_rfl) (by kernel_rfl) ?_
        repeat' (first | (show CW _ _ _ _ _ _; refine CW.ret ?_) | (show Post _ _ _ _ _; first | refine Post.seq ?_ | refine Post.np ?_) | refine SW.nil ?_ | refine SW.pure rfl rfl ?_)
        exact Post.ret3c rfl rfl rfl rfl hR2 rfl ⟨_, rfl, hw, _, hok, ⟨s.From, s.To, ⟨A, FIN.length, c⟩, s.Types⟩, rfl, ⟨sF, sT, hX, hT⟩⟩
   ·have hty' := hty
    unfold tyOk at hty'
    repeat' (first | (show CW _ _ _ _ _ _; first | refine CW.seq ?_ | refine CW.region ?_ | refine CW.condn_t rfl (by omega) ?_ | refine CW.condn_f rfl (by omega) ?_ | refine CW.condf rfl ?_ | refine CW.skip ?_) | (show Post _ _ _ _ _; refine Post.seq ?_) | refine SW.nil ?_ | refine SW.pure rfl rfl ?_ | (show SW _ _ _ _ (⟨_, Op.build _ _, _, _, _, none⟩ :: _) _ _; refine SW.st (st_build rfl rfl) rfl ?_) | (show SW _ _ _ _ (⟨_, Op.load _ _, _, _, _, none⟩ :: _) _ _; refine SW.st (st_loads rfl rfl ((fun _ _ => hb3.cell))) rfl ?_) | (show SW _ _ _ _ (⟨_, Op.call ⟨.value (.func _), _, _⟩, _, _, _, none⟩ :: _) _ _; first | (refine SW.call rfl rfl (c1 _ hw) ?_; intro v w1 hw1 hv; subst hv; replace hw := Ext.trans hw hw1; replace hb3 := hb3.ext hw1; replace hb6 := hb6.ext hw1; clear hw1) | (refine SW.call rfl rfl (In_ans _ _ _ _) ?_; intro v w1 hw1 hv; subst hv; replace hw := Ext.trans hw hw1; replace hb3 := hb3.ext hw1; replace hb6 := hb6.ext hw1; clear hw1)))
    all_goals first | (exfalso; omega) | skip
    refine SW.storeAgg hb6 rfl rfl rfl rfl (one_z .zero) fun w5 hR2 hg => ?_
    replace hw := hw.own hb6w hg
    repeat' (first | (show CW _ _ _ _ _ _; refine CW.ret ?_) | (show Post _ _ _ _ _; first | refine Post.seq ?_ | refine Post.seq_ret ?_) | refine SW.nil ?_ | refine SW.pure rfl rfl ?_)
    exact Post.ret3c rfl rfl rfl rfl hR2 rfl ⟨_, rfl, hw, _, .kind hq ho hty, TakeOut.zero 2 _ _⟩
  ·repeat' (first | (show CW _ _ _ _ _ _; first | refine CW.seq ?_ | refine CW.region ?_ | refine CW.condn_t rfl (by omega) ?_ | refine CW.condf rfl ?_ | refine CW.skip ?_) | (show Post _ _ _ _ _; refine Post.seq ?_) | refine SW.nil ?_ | refine SW.pure rfl rfl ?_ | (show SW _ _ _ _ (⟨_, Op.build _ _, _, _, _, none⟩ :: _) _ _; refine SW.st (st_build rfl rfl) rfl ?_) | (show SW _ _ _ _ (⟨_, Op.load _ _, _, _, _, none⟩ :: _) _ _; refine SW.st (st_loads rfl rfl ((fun _ _ => hb3.cell))) rfl ?_) | (show SW _ _ _ _ (⟨_, Op.call ⟨.value (.func _), _, _⟩, _, _, _, none⟩ :: _) _ _; first | (refine SW.call rfl rfl (c1 _ hw) ?_; intro v w1 hw1 hv; subst hv; replace hw := Ext.trans hw hw1; replace hb3 := hb3.ext hw1; replace hb6 := hb6.ext hw1; clear hw1) | (refine SW.call rfl rfl (In_ans _ _ _ _) ?_; intro v w1 hw1 hv; subst hv; replace hw := Ext.trans hw hw1; replace hb3 := hb3.ext hw1; replace hb6 := hb6.ext hw1; clear hw1)))
   all_goals first | (exfalso; omega) | skip
   refine SW.storeAgg hb6 rfl rfl rfl rfl (one_z .zero) fun w5 hR2 hg => ?_
   replace hw := hw.own hb6w hg
   repeat' (first | (show CW _ _ _ _ _ _; refine CW.ret ?_) | (show Post _ _ _ _ _; first | refine Post.seq ?_ | refine Post.seq_ret ?_) | refine SW.nil ?_ | refine SW.pure rfl rfl ?_)
   exact Post.ret3c rfl rfl rfl rfl hR2 rfl ⟨_, rfl, hw, _, .range hq ho, TakeOut.zero 1 _ _⟩
end Go.Proofs.YtfommgdbahemfaaDoor
