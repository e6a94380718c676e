/-
  Texts of the claim PagesAllocs, part 3: what its theorem leans on.
-/
import Derived.Test.YtfommgdbahemfaaDoorPackPagesAllocs2
set_option linter.unusedVariables false
namespace Go.Proofs.YtfommgdbahemfaaDoor
def pw (o : Int) : Int := 2 ^ o.toNat
theorem pw_cases {o : Int} (h0 : 0 ≤ o) (h4 : o ≤ 4) : (o = 0 ∧ pw o = 1) ∨ (o = 1 ∧ pw o = 2) ∨ (o = 2 ∧ pw o = 4) ∨ (o = 3 ∧ pw o = 8) ∨ (o = 4 ∧ pw o = 16) := by
  have : o = 0 ∨ o = 1 ∨ o = 2 ∨ o = 3 ∨ o = 4 := by omega
  rcases this with rfl | rfl | rfl | rfl | rfl <;> decide
theorem pw_le {o : Int} (h0 : 0 ≤ o) (h4 : o ≤ 4) : 1 ≤ pw o ∧ pw o ≤ 16 := by rcases pw_cases h0 h4 with h | h | h | h | h <;> omega
theorem pw_succ {o : Int} (h0 : 0 ≤ o) (h4 : o ≤ 4) : pw (o + 1) = 2 * pw o := by
  have : o = 0 ∨ o = 1 ∨ o = 2 ∨ o = 3 ∨ o = 4 := by omega
  rcases this with rfl | rfl | rfl | rfl | rfl <;> decide
def beside (a o : Int) : Int := if a % (2 * pw o) = 0 then a + pw o else a - pw o
theorem xor_fact : ∀ a < 256, ∀ o < 4, a % 2 ^ o = 0 → ((a ^^^ 2 ^ o : Nat) : Int) = if (a : Int) % (2 * 2 ^ o) = 0 then (a : Int) + 2 ^ o else (a : Int) - 2 ^ o := by decide +kernel
theorem xor_beside {a : Nat} {o : Int} (ha : a < 256) (h0 : 0 ≤ o) (h4 : o < 4) (h : (a : Int) % pw o = 0) : ((a ^^^ 2 ^ o.toNat : Nat) : Int) = beside a o := by
  have : o = 0 ∨ o = 1 ∨ o = 2 ∨ o = 3 := by omega
  rcases this with rfl | rfl | rfl | rfl
  · exact xor_fact a ha 0 (by omega) (by simp only [pw] at h; omega)
  · exact xor_fact a ha 1 (by omega) (by have : pw 1 = 2 := by decide
                                         rw [this] at h; simp; omega)
  · exact xor_fact a ha 2 (by omega) (by have : pw 2 = 4 := by decide
                                         rw [this] at h; simp; omega)
  · exact xor_fact a ha 3 (by omega) (by have : pw 3 = 8 := by decide
                                         rw [this] at h; simp; omega)
def fitsZ (f t a o : Int) : Prop := 0 ≤ o ∧ o ≤ 4 ∧ f ≤ a ∧ a < t ∧ a % pw o = 0
instance (f t a o : Int) : Decidable (fitsZ f t a o) := inferInstanceAs (Decidable (_ ∧ _))
def tyOk (t : Int) : Prop := 0 ≤ t ∧ t ≤ 2
instance (t : Int) : Decidable (tyOk t) := inferInstanceAs (Decidable (_ ∧ _))
def nextOk (a b : Block) : Prop := a.At + pw a.Order ≤ b.At ∧ ¬ (b.Order < 4 ∧ a.Order = b.Order ∧ a.At = beside b.At b.Order)
instance (a b : Block) : Decidable (nextOk a b) := inferInstanceAs (Decidable (_ ∧ _))
def blkOk (f t : Int) (b : Block) : Prop := fitsZ f t b.At b.Order ∧ tyOk b.Ty
instance (f t : Int) (b : Block) : Decidable (blkOk f t b) := inferInstanceAs (Decidable (_ ∧ _))
def zoneOk (f t : Int) : Prop := 0 ≤ f ∧ f ≤ t ∧ t ≤ 256 ∧ f % 16 = 0 ∧ t % 16 = 0
instance (f t : Int) : Decidable (zoneOk f t) := inferInstanceAs (Decidable (_ ∧ _))
structure ZoneMay (z : Zone) : Prop where
  ok : zoneOk z.From z.To
  len : 8 * (z.Types.length : Int) = z.To - z.From
  types : ∀ t ∈ z.Types, tyOk t
  blk : ∀ (i : Nat) (h : i < z.Free.length), blkOk z.From z.To z.Free[i]
  next : ∀ (i : Nat) (h : i + 1 < z.Free.length), nextOk z.Free[i] z.Free[i + 1]
noncomputable def zoneB (z : Zone) : Bool := @decide (ZoneMay z) (Classical.propDecidable _)
theorem zoneB_t {z : Zone} (h : ZoneMay z) : zoneB z = true := by unfold zoneB; exact @decide_eq_true _ (Classical.propDecidable _) h
theorem zoneB_f {z : Zone} (h : ¬ ZoneMay z) : zoneB z = false := by unfold zoneB; exact @decide_eq_false _ (Classical.propDecidable _) h
theorem zoneB_iff {z : Zone} : zoneB z = true ↔ ZoneMay z := by
  by_cases h : ZoneMay z
  · simp [zoneB_t h, h]
  · simp [zoneB_f h, h]
theorem next_ref {f t : Int} {a b : Block} (ha : blkOk f t a) (hb : blkOk f t b) (h : a.At + pw a.Order ≤ b.At) :
    (b.Order < 4 ∧ a.Order = b.Order ∧ a.At = beside b.At b.Order) ↔ (b.Order < 4 ∧ a.Order = b.Order ∧ a.At + pw b.Order = b.At ∧ a.At % pw (b.Order + 1) = 0) := by
  obtain ⟨⟨h1, h2, h3, h4, h5⟩, _⟩ := ha
  obtain ⟨⟨g1, g2, g3, g4, g5⟩, _⟩ := hb
  rw [pw_succ g1 g2]
  unfold beside
  constructor
  · rintro ⟨e1, e2, e3⟩
    refine ⟨e1, e2, ?_⟩
    rw [e2] at h5 h
    have hp := pw_cases g1 g2
    generalize pw b.Order = q at *
    rcases hp with ⟨e, rfl⟩ | ⟨e, rfl⟩ | ⟨e, rfl⟩ | ⟨e, rfl⟩ | ⟨e, rfl⟩ <;> split at e3 <;> omega
  · rintro ⟨e1, e2, e3, e4⟩
    refine ⟨e1, e2, ?_⟩
    rw [e2] at h5 h
    have hp := pw_cases g1 g2
    generalize pw b.Order = q at *
    rcases hp with ⟨e, rfl⟩ | ⟨e, rfl⟩ | ⟨e, rfl⟩ | ⟨e, rfl⟩ | ⟨e, rfl⟩ <;> split <;> omega
def idxOf {α : Type} (p : α → Bool) (l : List α) : Int := if l.any p then (l.findIdx p : Int) else -1
def pagesOf (l : List Block) : Int := (l.map fun b => pw b.Order).sum
theorem pagesOf_take (l : List Block) (k : Nat) (h : k < l.length) : pagesOf (l.take (k + 1)) = pagesOf (l.take k) + pw l[k].Order := by
  unfold pagesOf
  rw [List.take_succ_eq_append_getElem h, List.map_append, List.sum_append]
  simp
theorem pagesOf_bound {z : Zone} (h : ZoneMay z) : ∀ k, k ≤ z.Free.length → 0 ≤ pagesOf (z.Free.take k) ∧ pagesOf (z.Free.take k) ≤ 16 * (k : Int)
  | 0, _ => by simp [pagesOf]
  | k + 1, hk => by
    have ih := pagesOf_bound h k (by omega)
    have hb := (h.blk k (by omega)).1
    have := pw_le hb.1 hb.2.1
    rw [pagesOf_take _ _ (by omega)]
    omega
theorem typeIdx {z : Zone} {a : Int} (hz : ZoneMay z) (h1 : z.From ≤ a) (h2 : a < z.To) : ∃ k : Nat, (a - z.From) / 8 = k ∧ k < z.Types.length := by
  have := hz.len
  exact ⟨((a - z.From) / 8).toNat, by omega, by omega⟩
end Go.Proofs.YtfommgdbahemfaaDoor
set_option linter.unusedVariables false
namespace Go.Proofs.YtfommgdbahemfaaDoor
open Go.RowKit
structure Sli where
  A : Option Addr
  n : Nat
  c : Nat
def Sli.v (s : Sli) : Value := .slice s.A s.n s.c
def Sli.nil : Sli := ⟨none, 0, 0⟩
structure ZRow where
  From : Int
  To : Int
  Free : Sli
  Types : Sli
def encZ (z : ZRow) : List Value := [.int .i64 z.From, .int .i64 z.To, z.Free.v, z.Types.v]
instance : Enc encZ 4 := ⟨fun _ => rfl, fun r u hu => by simp [encZ, Sli.v] at hu; rcases hu with rfl | rfl | rfl | rfl <;> rfl⟩
theorem one_z (r : ZRow) : ∀ v ∈ encZ r, v.oneCell' = true := Enc.one (enc := encZ) r
structure RdZ (w : World) (r : ZRow) (z : Zone) : Prop where
  from_ : r.From = z.From
  to_ : r.To = z.To
  free : Sl w 3 encBk r.Free.A r.Free.n z.Free
  types : Sl w 1 encI r.Types.A r.Types.n z.Types
structure OwnZ (w : World) (lo : Nat) (r : ZRow) (z : Zone) : Prop where
  from_ : r.From = z.From
  to_ : r.To = z.To
  free : Own w lo 55 3 encBk r.Free.A r.Free.n r.Free.c z.Free
  types : Own w lo 3 1 encI r.Types.A r.Types.n r.Types.c z.Types
theorem RdZ.ext {w w' : World} {r : ZRow} {z : Zone} (h : RdZ w r z) (hx : Ext w w') : RdZ w' r z := ⟨h.from_, h.to_, h.free.ext hx, h.types.ext hx⟩
theorem OwnZ.ext {w w' : World} {lo : Nat} {r : ZRow} {z : Zone} (h : OwnZ w lo r z) (hx : Ext w w') : OwnZ w' lo r z := ⟨h.from_, h.to_, h.free.ext hx, h.types.ext hx⟩
theorem OwnZ.low {w : World} {lo lo' : Nat} {r : ZRow} {z : Zone} (h : OwnZ w lo r z) (hl : lo' ≤ lo) : OwnZ w lo' r z := ⟨h.from_, h.to_, h.free.low hl, h.types.low hl⟩
theorem OwnZ.rd {w : World} {lo : Nat} {r : ZRow} {z : Zone} (h : OwnZ w lo r z) : RdZ w r z := ⟨h.from_, h.to_, h.free.sl, h.types.sl⟩
theorem OwnZ.blk {w w' : World} {lo b t : Nat} {r : ZRow} {z : Zone} {cs : List Value} (h : OwnZ w lo r z) (hB : Blk w b t cs) (hg : w.grownBy w' (some b)) (h1 : Nat.beq t 55 = false) (h2 : Nat.beq t 3 = false) : OwnZ w' lo r z :=
  ⟨h.from_, h.to_, h.free.grown hg (.inr (h.free.ne_blk hB h1)), h.types.grown hg (.inr (h.types.ne_blk hB h2))⟩
def Zone.zero : Zone := ⟨0, 0, [], []⟩
def ZRow.zero : ZRow := ⟨0, 0, .nil, .nil⟩
theorem OwnZ.zero (w : World) (lo : Nat) : OwnZ w lo .zero .zero := ⟨rfl, rfl, Own.nil_ _ _ _ _ _ _, Own.nil_ _ _ _ _ _ _⟩
theorem sameZone_ans (r s : ZRow) (a b : Zone) (w : World) (ha : RdZ w r a) (hb : RdZ w s b) (hn : r.Free.n ≤ 2305843009213693952) (hm : r.Types.n ≤ 2305843009213693952) :
    Ans Tryd.prog 9 [.agg (encZ r).toArray, .agg (encZ s).toArray] w fun v _ => v = .bool (decide (a = b)) := by
  refine ans_of Tryd.func9 rfl Tryd.ntmps9 rfl ?_
  have e1 := ha.from_
  have e2 := ha.to_
  have e3 := hb.from_
  have e4 := hb.to_
  refine CW.seq (CW.region (SW.box rfl rfl fun b1 w1 hw hb1 hB => ?_))
  refine SW.box rfl rfl fun b2 w2 hw2 hb2 hB2 => ?_
  replace hw := Ext.trans hw hw2
  replace hB := hB.ext hw2
  repeat' (first | (show CW _ _ _ _ _ _; first | refine CW.seq ?_ | refine CW.region ?_ | refine CW.ret ?_) | (show Post _ _ _ _ _; refine Post.seq ?_) | refine SW.nil ?_ | (show SW _ _ _ _ (⟨_, _, _, _, _, some _⟩ :: _) _ _; first | refine SW.want_t rfl rfl (by with_reducible rfl) ?_ | refine SW.skip_t rfl rfl (by with_reducible rfl) rfl ?_ | refine SW.splitd rfl rfl rfl (fun h => ?_) (fun h => ?_)) | refine SW.pure rfl rfl ?_ | (show SW _ _ _ _ (⟨_, Op.fieldAddr _ _ _, _, _, _, none⟩ :: _) _ _; refine SW.st (st_field rfl) rfl ?_) | (show SW _ _ _ _ (⟨_, Op.load _ _, _, _, _, none⟩ :: _) _ _; first | refine SW.st (st_load rfl (hB.cell rfl)) rfl ?_ | refine SW.st (st_load rfl (hB2.cell rfl)) rfl ?_) | (show SW _ _ _ _ (⟨_, Op.call ⟨.value (.func _), _, _⟩, _, _, _, none⟩ :: _) _ _; first | (refine SW.call rfl rfl (sameBlocks_ans _ _ _ _ _ _ _ _ _ (ha.free.ext hw) (hb.free.ext hw) hn) ?_; intro v w1 hw1 hv; subst hv; replace hw := Ext.trans hw hw1; replace hB := hB.ext hw1; replace hB2 := hB2.ext hw1; clear hw1) | (refine SW.call rfl rfl (sameInts_ans _ _ _ _ _ _ _ _ _ (ha.types.ext hw) (hb.types.ext hw) hm) ?_; intro v w1 hw1 hv; subst hv; replace hw := Ext.trans hw hw1; replace hB := hB.ext hw1; replace hB2 := hB2.ext hw1; clear hw1)))
  all_goals refine Post.ret1 rfl rfl ⟨_, rfl, hw, ?_⟩
  all_goals obtain ⟨a1, a2, a3, a4⟩ := a
  all_goals obtain ⟨b1, b2, b3, b4⟩ := b
  all_goals simp_all
theorem Zcopy_ans (r : ZRow) (z : Zone) (w : World) (hr : RdZ w r z) (hn : r.Free.n * 24 ≤ 140737488355328) (hm : r.Types.n * 8 ≤ 140737488355328) :
    Ans Tryd.prog 19 [.agg (encZ r).toArray] w fun v w' => ∃ s, v = .agg (encZ s).toArray ∧ OwnZ w' w.heap.size s z ∧ s.Free.n = r.Free.n ∧ s.Types.n = r.Types.n := by
  refine ans_of Tryd.func19 rfl Tryd.ntmps19 rfl ?_
  refine CW.seq (CW.region (SW.box rfl rfl fun b w1 hw hb hB => ?_))
  refine SW.alloc rfl fun b2 w2 hw2 hb2 hB2 => ?_
  have hb2w : w.heap.size ≤ b2 := Nat.le_trans hw.size hb2
  have hne : b2 ≠ b := by have := hB.lt; omega
  replace hw := Ext.trans hw hw2
  replace hB := hB.ext hw2
  have hbw := hb
  repeat' (first | (show CW _ _ _ _ _ _; refine CW.seq ?_) | (show Post _ _ _ _ _; refine Post.seq ?_) | refine SW.nil ?_)
  refine CW.any 7 mixed (rb_tail (by kernel_rfl)) rfl fun w1 hw1 hRB => ?_
  replace hw := Ext.trans hw hw1; replace hB := hB.ext hw1; replace hB2 := hB2.ext hw1; clear hw1
  refine SA.take 0 hRB rfl (by kernel_rfl) (by kernel_rfl) rfl ?_
  repeat ((show SW _ _ _ _ (⟨_, Op.fieldAddr _ _ _, _, _, _, none⟩ :: _) _ _; refine SW.st (st_field rfl) rfl ?_))
  refine SW.tknil ?_
  refine SA.take 1 hRB rfl (by kernel_rfl) (by kernel_rfl) rfl ?_
  repeat ((show SW _ _ _ _ (⟨_, Op.load _ _, _, _, _, none⟩ :: _) _ _; refine SW.st (st_load rfl (hB.cell rfl)) rfl ?_))
  refine SW.tknil ?_
  refine SA.take 3 hRB rfl (by kernel_rfl) (by kernel_rfl) rfl ?_
  repeat ((show SW _ _ _ _ (⟨_, Op.fieldAddr _ _ _, _, _, _, none⟩ :: _) _ _; refine SW.st (st_field rfl) rfl ?_))
  refine SW.tknil ?_
  refine SA.take 4 hRB rfl (by kernel_rfl) (by kernel_rfl) rfl ?_
  repeat ((show SW _ _ _ _ (⟨_, Op.load _ _, _, _, _, none⟩ :: _) _ _; refine SW.st (st_load rfl (hB.cell rfl)) rfl ?_))
  refine SW.tknil ?_
  refine SA.one 2 rfl (by kernel_rfl) rfl ?_
  refine SW.call rfl rfl (CloneBlock_ans _ _ _ _ _ (hr.free.ext hw) hn) fun v w4 hXX hv => ?_
  obtain ⟨X, c4, rfl, hX⟩ := hv
  replace hX := hX.low hw.size
  replace hw := Ext.trans hw hXX
  replace hB := hB.ext hXX
  replace hB2 := hB2.ext hXX
  refine SW.nil (Post.sa hXX ?_)
  refine SA.take 6 hRB rfl (by kernel_rfl) (by kernel_rfl) rfl ?_
  repeat ((show SW _ _ _ _ (⟨_, Op.fieldAddr _ _ _, _, _, _, none⟩ :: _) _ _; refine SW.st (st_field rfl) rfl ?_))
  refine SW.tknil ?_
  refine SA.one 5 rfl (by kernel_rfl) rfl ?_
  refine SW.call rfl rfl (CloneInt_ans _ _ _ _ _ (hr.types.ext hw) hm) fun v w4 hXX hv => ?_
  obtain ⟨Y, d4, rfl, hY⟩ := hv
  replace hY := hY.low hw.size
  replace hX := hX.ext hXX
  replace hw := Ext.trans hw hXX
  replace hB := hB.ext hXX
  replace hB2 := hB2.ext hXX
  refine SW.nil (Post.sa hXX ?_)
  refine SA.done (by kernel_rfl) ?_
  skip
  refine SW.storeB (i := 2) hB rfl rfl rfl rfl fun w5 hB' hg => ?_
  replace hw := hw.own hbw hg
  replace hX := hX.grown hg (.inr (hX.ne_blk hB rfl))
  replace hY := hY.grown hg (.inr (hY.ne_blk hB rfl))
  replace hB2 := hB2.grown hg (by simpa using hne)
  repeat' ((show SW _ _ _ _ (⟨_, Op.fieldAddr _ _ _, _, _, _, none⟩ :: _) _ _; refine SW.st (st_field rfl) rfl ?_))
  refine SW.storeB (i := 3) hB' rfl rfl rfl rfl fun w6 hB'' hg => ?_
  replace hw := hw.own hbw hg
  replace hX := hX.grown hg (.inr (hX.ne_blk hB' rfl))
  replace hY := hY.grown hg (.inr (hY.ne_blk hB' rfl))
  replace hB2 := hB2.grown hg (by simpa using hne)
  repeat' (first | (show CW _ _ _ _ _ _; first | refine CW.seq ?_ | refine CW.region ?_) | (show Post _ _ _ _ _; first | refine Post.seq ?_ | refine Post.np ?_) | refine SW.nil ?_ | (show SW _ _ _ _ (⟨_, Op.load _ _, _, _, _, none⟩ :: _) _ _; refine SW.st (st_loads rfl rfl ((fun _ _ => hB''.cell))) rfl ?_))
  refine SW.storeAgg hB2 rfl rfl rfl rfl (one_z ⟨r.From, r.To, ⟨X, r.Free.n, c4⟩, ⟨Y, r.Types.n, d4⟩⟩) fun w7 hR2 hg => ?_
  replace hw := hw.own hb2w hg
  replace hX := hX.grown hg (.inr (hX.ne_blk hB2 rfl))
  replace hY := hY.grown hg (.inr (hY.ne_blk hB2 rfl))
  repeat' (first | (show CW _ _ _ _ _ _; refine CW.ret ?_) | (show Post _ _ _ _ _; refine Post.seq ?_) | refine SW.nil ?_)
  exact Post.ret1c rfl rfl hR2 rfl ⟨_, rfl, hw, ⟨r.From, r.To, ⟨X, r.Free.n, c4⟩, ⟨Y, r.Types.n, d4⟩⟩, rfl, ⟨hr.from_, hr.to_, hX, hY⟩, rfl, rfl⟩
def zoneNewV (f t : Int) : Int × Zone := if zoneOk f t then (0, ⟨f, t, [], List.replicate ((t - f) / 8).toNat 1⟩) else (1, .zero)
def ZoneOut (lo : Nat) (r : Int × Zone) (v : Value) (w : World) : Prop := ∃ s : ZRow, v = .tuple #[.agg (encZ s).toArray, .int .i64 r.1] ∧ OwnZ w lo s r.2
theorem zoneNewV_f {f t : Int} (h : ¬ zoneOk f t) : zoneNewV f t = (1, .zero) := if_neg h
theorem zoneNewV_t {f t : Int} (h : zoneOk f t) : zoneNewV f t = (0, ⟨f, t, [], List.replicate ((t - f) / 8).toNat 1⟩) := if_pos h
theorem tmod16 {x : Int} (h : 0 ≤ x) : x.tmod 16 = x % 16 := Int.tmod_eq_emod_of_nonneg h
theorem rep_set (k i : Nat) (h : i < k) : (List.replicate i (1 : Int) ++ List.replicate (k - i) 0).set i 1 = List.replicate (i + 1) 1 ++ List.replicate (k - (i + 1)) 0 := by
  apply List.ext_getElem (by simp; omega)
  intro j h1 h2
  rw [List.getElem_set]
  by_cases hj : i = j
  · subst hj; simp
  · simp only [hj, if_false, List.getElem_append, List.length_replicate, List.getElem_replicate]
    by_cases h3 : j < i
    · simp [h3, show j < i + 1 by omega]
    · simp [h3, show ¬ j < i + 1 by omega]
theorem Znew_ans (f t : Int) (w : World) (hf : -9223372036854775808 ≤ f ∧ f ≤ 9223372036854775807) (ht : -9223372036854775808 ≤ t ∧ t ≤ 9223372036854775807) : Ans Tryd.prog 52 [.int .i64 f, .int .i64 t] w (ZoneOut w.heap.size (zoneNewV f t)) := by
  refine ans_of Tryd.func52 rfl Tryd.ntmps52 rfl ?_
  refine CW.seq (CW.region (SW.alloc rfl fun b4 w1 hw hb4b hb4 => ?_))
  have hb4w := hb4b
  by_cases hok : zoneOk f t
  · obtain ⟨h1, h2, h3, h4, h5⟩ := id hok
    have m1 := tmod16 h1
    have m2 := tmod16 (show 0 ≤ t by omega)
    rw [zoneNewV_t hok]
    obtain ⟨k, hk⟩ : ∃ k : Nat, (t - f) / 8 = k := ⟨((t - f) / 8).toNat, by omega⟩
    repeat' (first | (show CW _ _ _ _ _ _; first | refine CW.seq ?_ | refine CW.region ?_ | refine CW.condn_f rfl (by omega) ?_ | refine CW.skip ?_) | (show Post _ _ _ _ _; refine Post.seq ?_) | refine SW.nil ?_ | (show SW _ _ _ _ (⟨_, _, _, _, _, some _⟩ :: _) _ _; first | refine SW.want_f rfl rfl (by with_reducible rfl) ?_ | refine SW.splitd_f rfl rfl rfl (by omega) ?_ | refine SW.splitn_f rfl rfl rfl (by omega) ?_) | refine SW.pure rfl rfl ?_ | (show SW _ _ _ _ (⟨_, Op.binOp _ _ _ _ _, _, _, _, none⟩ :: _) _ _; first | refine SW.st (st_sub rfl rfl (by omega) (by omega)) rfl ?_ | refine SW.st (st_quo rfl rfl (by omega) (by omega) (by omega)) rfl ?_ | refine SW.st (st_rem rfl rfl (by omega)) rfl ?_))
    refine SW.make (enc := encI) (k := k) 0 rfl rfl (by omega) (by omega) (by omega) rfl fun A c w2 hw2 hO => ?_
    replace hO := hO.low hw.size
    (replace hw := Ext.trans hw hw2; replace hb4 := hb4.ext hw2)
    repeat' ((show SW _ _ _ _ (⟨_, Op.build _ _, _, _, _, none⟩ :: _) _ _; refine SW.st (st_build rfl rfl) rfl ?_))
    refine SW.alloc rfl fun b6 w1 hw1 hb6b hb6 => ?_
    have hb6w : w.heap.size ≤ b6 := Nat.le_trans hw.size hb6b
    have hne_b4 : b4 ≠ b6 := by have := hb4.lt; omega
    replace hw := Ext.trans hw hw1
    replace hb4 := hb4.ext hw1
    replace hO := hO.ext hw1
    refine SW.storeAgg hb6 rfl rfl rfl rfl (one_z ⟨f, t, .nil, ⟨A, k, c⟩⟩) fun w2 hb6' hg => ?_
    replace hw := hw.own hb6w hg
    replace hO := hO.grown hg (.inr (hO.ne_blk hb6 rfl))
    replace hb4 := hb4.grown hg (by simpa using hne_b4)
    replace hb6 := hb6'
    clear hb6' hw1 hg hb6b
    have hA := hO.sl.base
    repeat' (first | (show CW _ _ _ _ _ _; first | refine CW.seq ?_ | refine CW.region ?_ | refine CW.block ?_) | (show Post _ _ _ _ _; refine Post.seq ?_) | refine SW.nil ?_ | refine SW.pure rfl rfl ?_ | (show SW _ _ _ _ (⟨_, Op.fieldAddr _ _ _, _, _, _, none⟩ :: _) _ _; refine SW.st (st_field rfl) rfl ?_) | (show SW _ _ _ _ (⟨_, Op.call ⟨.builtin .len, _, _⟩, _, _, _, none⟩ :: _) _ _; refine SW.st (st_len rfl) rfl ?_) | (show SW _ _ _ _ (⟨_, Op.load _ _, _, _, _, none⟩ :: _) _ _; refine SW.st (st_load rfl (hb6.cell rfl)) rfl ?_))
    refine CW.loop (fun i : Nat => [(4, .pointer (some ⟨b4, 0, none⟩)), (6, .pointer (some ⟨b6, 0, none⟩)), (40, .int .i64 (k : Int)), (41, .int .i64 (i : Int))])
      (fun i w' => i ≤ k ∧ Ext w w' ∧ Blk w' b4 25 (encZ .zero) ∧ Blk w' b6 25 (encZ ⟨f, t, .nil, ⟨A, k, c⟩⟩) ∧ Own w' w.heap.size 3 1 encI A k c (List.replicate i 1 ++ List.replicate (k - i) 0)) (fun i => k - i) 0
      ⟨rfl, rfl, rfl, rfl, trivial⟩ ⟨by omega, hw, hb4, hb6, by simpa using hO⟩ ?_
    clear hw hb4 hb6 hO
    rintro i w' ⟨hi, hw, hb4, hb6, hO⟩
    have hA := hO.sl.base
    by_cases hik : i < k
    · repeat' (first | (show CW _ _ _ _ _ _; first | refine CW.seq ?_ | refine CW.region ?_ | refine CW.block ?_ | refine CW.condd_t rfl (by omega) ?_ | refine CW.skip ?_) | (show Post _ _ _ _ _; refine Post.seq ?_) | refine SW.nil ?_ | refine SW.pure rfl rfl ?_ | (show SW _ _ _ _ (⟨_, Op.fieldAddr _ _ _, _, _, _, none⟩ :: _) _ _; refine SW.st (st_field rfl) rfl ?_) | (show SW _ _ _ _ (⟨_, Op.indexAddr _ _ _, _, _, _, none⟩ :: _) _ _; refine SW.st (st_indexN rfl rfl (by assumption) (by omega)) rfl ?_) | (show SW _ _ _ _ (⟨_, Op.load _ _, _, _, _, none⟩ :: _) _ _; refine SW.st (st_load rfl (hb6.cell rfl)) rfl ?_))
      refine SW.storeI i hO rfl rfl hik fun w3 hO3 hg => ?_
      replace hw := ext_grown hw hg (Nat.le_refl _) hO.row_ge
      replace hb4 := hb4.grown hg (fun e => hO.ne_blk hb4 rfl e.symm)
      replace hb6 := hb6.grown hg (fun e => hO.ne_blk hb6 rfl e.symm)
      rw [rep_set k i hik] at hO3
      repeat' (first | (show CW _ _ _ _ _ _; refine CW.region ?_) | (show Post _ _ _ _ _; first | refine Post.seq ?_ | refine Post.blk ?_) | refine SW.nil ?_ | refine SW.pure rfl rfl ?_ | (show SW _ _ _ _ (⟨_, Op.binOp _ _ _ _ _, _, _, _, none⟩ :: _) _ _; refine SW.st (st_add rfl rfl (by omega) (by omega)) rfl ?_))
      exact Post.again (i + 1) ⟨rfl, rfl, rfl, rfl, trivial⟩ (by omega) ⟨by omega, hw, hb4, hb6, hO3⟩
    · obtain rfl : i = k := by omega
      simp only [Nat.sub_self, List.replicate_zero, List.append_nil] at hO
      repeat' (first | (show CW _ _ _ _ _ _; first | refine CW.seq ?_ | refine CW.region ?_ | refine CW.condd_f rfl (by omega) ?_ | refine CW.exit ?_) | (show Post _ _ _ _ _; first | refine Post.seq ?_ | refine Post.seq_exit ?_ | refine Post.hit ?_ | refine Post.again_exit ?_) | refine SW.nil ?_ | refine SW.pure rfl rfl ?_ | (show SW _ _ _ _ (⟨_, Op.load _ _, _, _, _, none⟩ :: _) _ _; refine SW.st (st_loads rfl rfl ((fun _ _ => hb6.cell))) rfl ?_))
      refine SW.storeAgg hb4 rfl rfl rfl rfl (one_z ⟨f, t, .nil, ⟨A, i, c⟩⟩) fun w5 hR2 hg => ?_
      replace hw := hw.own hb4w hg
      replace hO := hO.grown hg (.inr (hO.ne_blk hb4 rfl))
      repeat' (first | (show CW _ _ _ _ _ _; refine CW.ret ?_) | (show Post _ _ _ _ _; refine Post.seq ?_) | refine SW.nil ?_ | refine SW.pure rfl rfl ?_)
      refine Post.ret2c rfl rfl rfl hR2 rfl ⟨_, rfl, hw, ⟨f, t, .nil, ⟨A, i, c⟩⟩, rfl, rfl, rfl, Own.nil_ _ _ _ _ _ _, ?_⟩
      simp only [hk, Int.toNat_natCast]
      exact hO
  · rw [zoneNewV_f hok]
    unfold zoneOk at hok
    have m1 := fun h => @tmod16 f h
    have m2 := fun h => @tmod16 t h
    by_cases h1 : 0 ≤ f
    · have m1 := m1 h1
      by_cases h2 : f ≤ t
      · have m2 := m2 (by omega)
        repeat' (first | (show CW _ _ _ _ _ _; first | refine CW.seq ?_ | refine CW.region ?_ | refine CW.condtr rfl (by with_reducible rfl) ?_ | refine CW.condn_t rfl (by omega) ?_) | (show Post _ _ _ _ _; refine Post.seq ?_) | refine SW.nil ?_ | (show SW _ _ _ _ (⟨_, _, _, _, _, some _⟩ :: _) _ _; first | refine SW.want_f rfl rfl (by with_reducible rfl) ?_ | refine SW.skip_f rfl rfl (by with_reducible rfl) rfl ?_ | refine SW.splitd_f rfl rfl rfl (by omega) ?_ | refine SW.splitd rfl rfl rfl (fun h => ?_) (fun h => ?_) | refine SW.splitn rfl rfl rfl (fun h => ?_) (fun h => ?_)) | refine SW.pure rfl rfl ?_ | (show SW _ _ _ _ (⟨_, Op.build _ _, _, _, _, none⟩ :: _) _ _; refine SW.st (st_build rfl rfl) rfl ?_) | (show SW _ _ _ _ (⟨_, Op.binOp _ _ _ _ _, _, _, _, none⟩ :: _) _ _; refine SW.st (st_rem rfl rfl (by omega)) rfl ?_))
        all_goals
          first
            | (exfalso; omega)
            | (refine SW.storeAgg hb4 rfl rfl rfl rfl (one_z .zero) fun w5 hR2 hg => ?_
               replace hw := hw.own hb4w hg
               repeat' (first | (show CW _ _ _ _ _ _; refine CW.ret ?_) | (show Post _ _ _ _ _; first | refine Post.seq ?_ | refine Post.seq_ret ?_) | refine SW.nil ?_ | refine SW.pure rfl rfl ?_)
               exact Post.ret2c rfl rfl rfl hR2 rfl ⟨_, rfl, hw, .zero, rfl, OwnZ.zero _ _⟩)
      · repeat' (first | (show CW _ _ _ _ _ _; first | refine CW.seq ?_ | refine CW.region ?_ | refine CW.condtr rfl (by with_reducible rfl) ?_) | (show Post _ _ _ _ _; refine Post.seq ?_) | refine SW.nil ?_ | (show SW _ _ _ _ (⟨_, _, _, _, _, some _⟩ :: _) _ _; first | refine SW.want_f rfl rfl (by with_reducible rfl) ?_ | refine SW.skip_f rfl rfl (by with_reducible rfl) rfl ?_ | refine SW.splitd_t rfl rfl rfl (by omega) ?_ | refine SW.splitd_f rfl rfl rfl (by omega) ?_ | refine SW.splitd rfl rfl rfl (fun h => ?_) (fun h => ?_)) | refine SW.pure rfl rfl ?_ | (show SW _ _ _ _ (⟨_, Op.build _ _, _, _, _, none⟩ :: _) _ _; refine SW.st (st_build rfl rfl) rfl ?_))
        all_goals
          refine SW.storeAgg hb4 rfl rfl rfl rfl (one_z .zero) fun w5 hR2 hg => ?_
          replace hw := hw.own hb4w hg
          repeat' (first | (show CW _ _ _ _ _ _; refine CW.ret ?_) | (show Post _ _ _ _ _; first | refine Post.seq ?_ | refine Post.seq_ret ?_) | refine SW.nil ?_ | refine SW.pure rfl rfl ?_)
          exact Post.ret2c rfl rfl rfl hR2 rfl ⟨_, rfl, hw, .zero, rfl, OwnZ.zero _ _⟩
    · repeat' (first | (show CW _ _ _ _ _ _; first | refine CW.seq ?_ | refine CW.region ?_ | refine CW.condtr rfl (by with_reducible rfl) ?_) | (show Post _ _ _ _ _; refine Post.seq ?_) | refine SW.nil ?_ | (show SW _ _ _ _ (⟨_, _, _, _, _, some _⟩ :: _) _ _; first | refine SW.skip_f rfl rfl (by with_reducible rfl) rfl ?_ | refine SW.splitd_t rfl rfl rfl (by omega) ?_) | refine SW.pure rfl rfl ?_ | (show SW _ _ _ _ (⟨_, Op.build _ _, _, _, _, none⟩ :: _) _ _; refine SW.st (st_build rfl rfl) rfl ?_))
      all_goals
        refine SW.storeAgg hb4 rfl rfl rfl rfl (one_z .zero) fun w5 hR2 hg => ?_
        replace hw := hw.own hb4w hg
        repeat' (first | (show CW _ _ _ _ _ _; refine CW.ret ?_) | (show Post _ _ _ _ _; first | refine Post.seq ?_ | refine Post.seq_ret ?_) | refine SW.nil ?_ | refine SW.pure rfl rfl ?_)
        exact Post.ret2c rfl rfl rfl hR2 rfl ⟨_, rfl, hw, .zero, rfl, OwnZ.zero _ _⟩
end Go.Proofs.YtfommgdbahemfaaDoor
set_option linter.unusedVariables false
namespace Go.Proofs.YtfommgdbahemfaaDoor
open Go.RowKit
theorem ZoneNew_ans (f t : Int) (w : World) (hf : -9223372036854775808 ≤ f ∧ f ≤ 9223372036854775807) (ht : -9223372036854775808 ≤ t ∧ t ≤ 9223372036854775807) : Ans Tryd.prog 64 [.int .i64 f, .int .i64 t] w (ZoneOut w.heap.size (zoneNewV f t)) := by
  refine ans_of Tryd.func64 rfl Tryd.ntmps64 rfl ?_
  refine CW.seq (CW.region (SW.alloc rfl fun b4 w1 hw hb4b hb4 => ?_))
  have hb4w := hb4b
  by_cases hok : zoneOk f t
  · obtain ⟨h1, h2, h3, h4, h5⟩ := id hok
    have m1 := tmod16 h1
    have m2 := tmod16 (show 0 ≤ t by omega)
    rw [zoneNewV_t hok]
    obtain ⟨k, hk⟩ : ∃ k : Nat, (t - f) / 8 = k := ⟨((t - f) / 8).toNat, by omega⟩
    repeat' (first | (show CW _ _ _ _ _ _; first | refine CW.seq ?_ | refine CW.region ?_ | refine CW.condn_f rfl (by omega) ?_ | refine CW.skip ?_) | (show Post _ _ _ _ _; refine Post.seq ?_) | refine SW.nil ?_ | (show SW _ _ _ _ (⟨_, _, _, _, _, some _⟩ :: _) _ _; first | refine SW.want_f rfl rfl (by with_reducible rfl) ?_ | refine SW.splitn_f rfl rfl rfl (by omega) ?_) | refine SW.pure rfl rfl ?_ | (show SW _ _ _ _ (⟨_, Op.build _ _, _, _, _, none⟩ :: _) _ _; refine SW.st (st_build rfl rfl) rfl ?_) | (show SW _ _ _ _ (⟨_, Op.binOp _ _ _ _ _, _, _, _, none⟩ :: _) _ _; refine SW.st (st_rem rfl rfl (by omega)) rfl ?_) | (show SW _ _ _ _ (⟨_, Op.call ⟨.value (.func _), _, _⟩, _, _, _, none⟩ :: _) _ _; (refine SW.call rfl rfl (In_ans _ _ _ _) ?_; intro v w1 hw1 hv; subst hv; replace hw := Ext.trans hw hw1; replace hb4 := hb4.ext hw1; clear hw1)))
    refine SW.alloc rfl fun b6 w1 hw1 hb6b hb6 => ?_
    have hb6w : w.heap.size ≤ b6 := Nat.le_trans hw.size hb6b
    have hne_b4 : b4 ≠ b6 := by have := hb4.lt; omega
    replace hw := Ext.trans hw hw1
    replace hb4 := hb4.ext hw1
    refine SW.storeAgg hb6 rfl rfl rfl rfl (one_z ⟨f, t, .nil, .nil⟩) fun w2 hb6' hg => ?_
    replace hw := hw.own hb6w hg
    replace hb4 := hb4.grown hg (by simpa using hne_b4)
    replace hb6 := hb6'
    clear hb6' hw1 hg hb6b
    repeat' (first | (show CW _ _ _ _ _ _; first | refine CW.seq ?_ | refine CW.region ?_ | refine CW.block ?_) | (show Post _ _ _ _ _; refine Post.seq ?_) | refine SW.nil ?_ | refine SW.pure rfl rfl ?_)
    refine CW.loop (fun s : Nat × Option Addr × Nat => [(1, .int .i64 t), (4, .pointer (some ⟨b4, 0, none⟩)), (6, .pointer (some ⟨b6, 0, none⟩)), (7, .int .i64 (f + 8 * (s.1 : Int)))])
      (fun s w' => s.1 ≤ k ∧ Ext w w' ∧ Blk w' b4 25 (encZ .zero) ∧ Blk w' b6 25 (encZ ⟨f, t, .nil, ⟨s.2.1, s.1, s.2.2⟩⟩) ∧ Own w' w.heap.size 3 1 encI s.2.1 s.1 s.2.2 (List.replicate s.1 1)) (fun s => k - s.1) (0, none, 0)
      ⟨rfl, rfl, rfl, by simp; rfl, trivial⟩ ⟨by omega, hw, hb4, hb6, Own.nil_ _ _ _ _ _ _⟩ ?_
    clear hw hb4 hb6
    rintro ⟨i, A, c⟩ w' ⟨hi, hw, hb4, hb6, hO⟩
    simp only at hi hb6 hO ⊢
    by_cases hik : i < k
    · repeat' (first | (show CW _ _ _ _ _ _; first | refine CW.seq ?_ | refine CW.region ?_ | refine CW.block ?_ | refine CW.condd_t rfl (by omega) ?_ | refine CW.skip ?_) | (show Post _ _ _ _ _; refine Post.seq ?_) | refine SW.nil ?_ | refine SW.pure rfl rfl ?_ | (show SW _ _ _ _ (⟨_, Op.fieldAddr _ _ _, _, _, _, none⟩ :: _) _ _; refine SW.st (st_field rfl) rfl ?_) | (show SW _ _ _ _ (⟨_, Op.load _ _, _, _, _, none⟩ :: _) _ _; refine SW.st (st_load rfl (hb6.cell rfl)) rfl ?_))
      refine SW.build1 rfl rfl rfl rfl rfl fun b w1 hw1 hb hB => ?_
      (replace hw := Ext.trans hw hw1; replace hb4 := hb4.ext hw1; replace hb6 := hb6.ext hw1; replace hO := hO.ext hw1)
      refine SW.append hO (Blk.sl1 (enc := encI) (x := 1) hB) hw.size rfl rfl rfl (by omega) (by omega) fun A2 c2 w2 hO1 hg => ?_
      replace hw := ext_grown hw hg (Nat.le_refl _) hO.row_ge
      replace hb4 := hb4.grown hg (fun e => hO.ne_blk hb4 rfl e.symm)
      replace hb6 := hb6.grown hg (fun e => hO.ne_blk hb6 rfl e.symm)
      repeat' ((show SW _ _ _ _ (⟨_, Op.fieldAddr _ _ _, _, _, _, none⟩ :: _) _ _; refine SW.st (st_field rfl) rfl ?_))
      refine SW.storeB (i := 3) hb6 rfl rfl rfl rfl fun w5 hb6' hg => ?_
      replace hw := hw.own hb6w hg
      replace hO1 := hO1.grown hg (.inr (hO1.ne_blk hb6 rfl))
      replace hb4 := hb4.grown hg (by simpa using hne_b4)
      repeat' (first | (show CW _ _ _ _ _ _; refine CW.region ?_) | (show Post _ _ _ _ _; first | refine Post.seq ?_ | refine Post.blk ?_) | refine SW.nil ?_ | refine SW.pure rfl rfl ?_ | (show SW _ _ _ _ (⟨_, Op.binOp _ _ _ _ _, _, _, _, none⟩ :: _) _ _; refine SW.st (st_add rfl rfl (by omega) (by omega)) rfl ?_))
      refine Post.again (i + 1, A2, c2) ⟨rfl, rfl, rfl, by simp only [get]; simp; omega, trivial⟩ (by simp only; omega) ⟨by simp only; omega, hw, hb4, hb6', ?_⟩
      simp only [List.replicate_succ']
      exact hO1
    · obtain rfl : i = k := by omega
      repeat' (first | (show CW _ _ _ _ _ _; first | refine CW.seq ?_ | refine CW.region ?_ | refine CW.condd_f rfl (by omega) ?_ | refine CW.exit ?_) | (show Post _ _ _ _ _; first | refine Post.seq ?_ | refine Post.seq_exit ?_ | refine Post.hit ?_ | refine Post.again_exit ?_) | refine SW.nil ?_ | refine SW.pure rfl rfl ?_ | (show SW _ _ _ _ (⟨_, Op.load _ _, _, _, _, none⟩ :: _) _ _; refine SW.st (st_loads rfl rfl ((fun _ _ => hb6.cell))) rfl ?_))
      refine SW.storeAgg hb4 rfl rfl rfl rfl (one_z ⟨f, t, .nil, ⟨A, i, c⟩⟩) fun w5 hR2 hg => ?_
      replace hw := hw.own hb4w hg
      replace hO := hO.grown hg (.inr (hO.ne_blk hb4 rfl))
      repeat' (first | (show CW _ _ _ _ _ _; refine CW.ret ?_) | (show Post _ _ _ _ _; refine Post.seq ?_) | refine SW.nil ?_ | refine SW.pure rfl rfl ?_)
      refine Post.ret2c rfl rfl rfl hR2 rfl ⟨_, rfl, hw, ⟨f, t, .nil, ⟨A, i, c⟩⟩, rfl, rfl, rfl, Own.nil_ _ _ _ _ _ _, ?_⟩
      simp only [hk, Int.toNat_natCast]
      exact hO
  · rw [zoneNewV_f hok]
    unfold zoneOk at hok
    have m1 := fun h => @tmod16 f h
    have m2 := fun h => @tmod16 t h
    by_cases h1 : 0 ≤ f
    · have m1 := m1 h1
      by_cases h2 : f ≤ t
      · have m2 := m2 (by omega)
        repeat' (first | (show CW _ _ _ _ _ _; first | refine CW.seq ?_ | refine CW.region ?_ | refine CW.condtr rfl (by with_reducible rfl) ?_ | refine CW.condn_t rfl (by omega) ?_) | (show Post _ _ _ _ _; refine Post.seq ?_) | refine SW.nil ?_ | (show SW _ _ _ _ (⟨_, _, _, _, _, some _⟩ :: _) _ _; first | refine SW.want_f rfl rfl (by with_reducible rfl) ?_ | refine SW.skip_f rfl rfl (by with_reducible rfl) rfl ?_ | refine SW.splitn rfl rfl rfl (fun h => ?_) (fun h => ?_)) | refine SW.pure rfl rfl ?_ | (show SW _ _ _ _ (⟨_, Op.build _ _, _, _, _, none⟩ :: _) _ _; refine SW.st (st_build rfl rfl) rfl ?_) | (show SW _ _ _ _ (⟨_, Op.binOp _ _ _ _ _, _, _, _, none⟩ :: _) _ _; refine SW.st (st_rem rfl rfl (by omega)) rfl ?_) | (show SW _ _ _ _ (⟨_, Op.call ⟨.value (.func _), _, _⟩, _, _, _, none⟩ :: _) _ _; (refine SW.call rfl rfl (In_ans _ _ _ _) ?_; intro v w1 hw1 hv; subst hv; replace hw := Ext.trans hw hw1; replace hb4 := hb4.ext hw1; clear hw1)))
        all_goals
          first
            | (exfalso; omega)
            | (refine SW.storeAgg hb4 rfl rfl rfl rfl (one_z .zero) fun w5 hR2 hg => ?_
               replace hw := hw.own hb4w hg
               repeat' (first | (show CW _ _ _ _ _ _; refine CW.ret ?_) | (show Post _ _ _ _ _; first | refine Post.seq ?_ | refine Post.seq_ret ?_) | refine SW.nil ?_ | refine SW.pure rfl rfl ?_)
               exact Post.ret2c rfl rfl rfl hR2 rfl ⟨_, rfl, hw, .zero, rfl, OwnZ.zero _ _⟩)
      · repeat' (first | (show CW _ _ _ _ _ _; first | refine CW.seq ?_ | refine CW.region ?_ | refine CW.condtr rfl (by with_reducible rfl) ?_) | (show Post _ _ _ _ _; refine Post.seq ?_) | refine SW.nil ?_ | (show SW _ _ _ _ (⟨_, _, _, _, _, some _⟩ :: _) _ _; first | refine SW.want_f rfl rfl (by with_reducible rfl) ?_ | refine SW.skip_f rfl rfl (by with_reducible rfl) rfl ?_ | refine SW.splitn_t rfl rfl rfl (by omega) ?_ | refine SW.splitn rfl rfl rfl (fun h => ?_) (fun h => ?_)) | refine SW.pure rfl rfl ?_ | (show SW _ _ _ _ (⟨_, Op.build _ _, _, _, _, none⟩ :: _) _ _; refine SW.st (st_build rfl rfl) rfl ?_) | (show SW _ _ _ _ (⟨_, Op.call ⟨.value (.func _), _, _⟩, _, _, _, none⟩ :: _) _ _; (refine SW.call rfl rfl (In_ans _ _ _ _) ?_; intro v w1 hw1 hv; subst hv; replace hw := Ext.trans hw hw1; replace hb4 := hb4.ext hw1; clear hw1)))
        all_goals
          refine SW.storeAgg hb4 rfl rfl rfl rfl (one_z .zero) fun w5 hR2 hg => ?_
          replace hw := hw.own hb4w hg
          repeat' (first | (show CW _ _ _ _ _ _; refine CW.ret ?_) | (show Post _ _ _ _ _; first | refine Post.seq ?_ | refine Post.seq_ret ?_) | refine SW.nil ?_ | refine SW.pure rfl rfl ?_)
          exact Post.ret2c rfl rfl rfl hR2 rfl ⟨_, rfl, hw, .zero, rfl, OwnZ.zero _ _⟩
    · repeat' (first | (show CW _ _ _ _ _ _; first | refine CW.seq ?_ | refine CW.region ?_ | refine CW.condtr rfl (by with_reducible rfl) ?_) | (show Post _ _ _ _ _; refine Post.seq ?_) | refine SW.nil ?_ | (show SW _ _ _ _ (⟨_, _, _, _, _, some _⟩ :: _) _ _; first | refine SW.skip_f rfl rfl (by with_reducible rfl) rfl ?_ | refine SW.splitn_t rfl rfl rfl (by omega) ?_) | refine SW.pure rfl rfl ?_ | (show SW _ _ _ _ (⟨_, Op.build _ _, _, _, _, none⟩ :: _) _ _; refine SW.st (st_build rfl rfl) rfl ?_) | (show SW _ _ _ _ (⟨_, Op.call ⟨.value (.func _), _, _⟩, _, _, _, none⟩ :: _) _ _; (refine SW.call rfl rfl (In_ans _ _ _ _) ?_; intro v w1 hw1 hv; subst hv; replace hw := Ext.trans hw hw1; replace hb4 := hb4.ext hw1; clear hw1)))
      all_goals
        refine SW.storeAgg hb4 rfl rfl rfl rfl (one_z .zero) fun w5 hR2 hg => ?_
        replace hw := hw.own hb4w hg
        repeat' (first | (show CW _ _ _ _ _ _; refine CW.ret ?_) | (show Post _ _ _ _ _; first | refine Post.seq ?_ | refine Post.seq_ret ?_) | refine SW.nil ?_ | refine SW.pure rfl rfl ?_)
        exact Post.ret2c rfl rfl rfl hR2 rfl ⟨_, rfl, hw, .zero, rfl, OwnZ.zero _ _⟩
end Go.Proofs.YtfommgdbahemfaaDoor
