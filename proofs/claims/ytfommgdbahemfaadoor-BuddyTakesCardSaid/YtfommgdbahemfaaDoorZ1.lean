/-
  Contracts: zones of pages: how they lie in memory; sameZone, buddy.Copy, ZoneCopy.
-/
import Derived.Test.YtfommgdbahemfaaDoorC1
import Derived.Test.YtfommgdbahemfaaDoorPZone
set_option linter.unusedVariables false
namespace Go.Proofs.YtfommgdbahemfaaDoor
open Go.RowKit

/-- a slice's head -/
structure Sli where
  A : Option Addr
  n : Nat
  c : Nat
def Sli.v (s : Sli) : Value := .slice s.A s.n s.c
def Sli.nil : Sli := ⟨none, 0, 0⟩

/-- a Zone's cells -/
structure ZRow where
  From : Int
  To : Int
  Free : Sli
  Types : Sli
def encZ (z : ZRow) : List Value := [.int .i64 z.From, .int .i64 z.To, z.Free.v, z.Types.v]
instance : Enc encZ 4 := ⟨fun _ => rfl, fun r u hu => by simp [encZ, Sli.v] at hu; rcases hu with rfl | rfl | rfl | rfl <;> rfl⟩
theorem one_z (r : ZRow) : ∀ v ∈ encZ r, v.oneCell' = true := Enc.one (enc := encZ) r

/-- a zone, read -/
structure RdZ (w : World) (r : ZRow) (z : Zone) : Prop where
  from_ : r.From = z.From
  to_ : r.To = z.To
  free : Sl w 3 encBk r.Free.A r.Free.n z.Free
  types : Sl w 1 encI r.Types.A r.Types.n z.Types
/-- a zone whose lists are the call's own -/
structure OwnZ (w : World) (lo : Nat) (r : ZRow) (z : Zone) : Prop where
  from_ : r.From = z.From
  to_ : r.To = z.To
  free : Own w lo 55 3 encBk r.Free.A r.Free.n r.Free.c z.Free
  types : Own w lo 3 1 encI r.Types.A r.Types.n r.Types.c z.Types
theorem RdZ.ext {w w' : World} {r : ZRow} {z : Zone} (h : RdZ w r z) (hx : Ext w w') : RdZ w' r z := ⟨h.from_, h.to_, h.free.ext hx, h.types.ext hx⟩
theorem OwnZ.ext {w w' : World} {lo : Nat} {r : ZRow} {z : Zone} (h : OwnZ w lo r z) (hx : Ext w w') : OwnZ w' lo r z := ⟨h.from_, h.to_, h.free.ext hx, h.types.ext hx⟩
theorem OwnZ.low {w : World} {lo lo' : Nat} {r : ZRow} {z : Zone} (h : OwnZ w lo r z) (hl : lo' ≤ lo) : OwnZ w lo' r z := ⟨h.from_, h.to_, h.free.low hl, h.types.low hl⟩
theorem OwnZ.rd {w : World} {lo : Nat} {r : ZRow} {z : Zone} (h : OwnZ w lo r z) : RdZ w r z := ⟨h.from_, h.to_, h.free.sl, h.types.sl⟩
/-- a store into a block of another type -/
theorem OwnZ.blk {w w' : World} {lo b t : Nat} {r : ZRow} {z : Zone} {cs : List Value} (h : OwnZ w lo r z) (hB : Blk w b t cs) (hg : w.grownBy w' (some b)) (h1 : Nat.beq t 55 = false) (h2 : Nat.beq t 3 = false) : OwnZ w' lo r z :=
  ⟨h.from_, h.to_, h.free.grown hg (.inr (h.free.ne_blk hB h1)), h.types.grown hg (.inr (h.types.ne_blk hB h2))⟩
def Zone.zero : Zone := ⟨0, 0, [], []⟩
def ZRow.zero : ZRow := ⟨0, 0, .nil, .nil⟩
theorem OwnZ.zero (w : World) (lo : Nat) : OwnZ w lo .zero .zero := ⟨rfl, rfl, Own.nil_ _ _ _ _ _ _, Own.nil_ _ _ _ _ _ _⟩

def zone_eqB (a b : Zone) : Bool := decide (a = b)

theorem sameZone_ans (r s : ZRow) (a b : Zone) (w : World) (ha : RdZ w r a) (hb : RdZ w s b) (hn : r.Free.n ≤ 2305843009213693952) (hm : r.Types.n ≤ 2305843009213693952) :
    Ans Tryd.prog 9 [.agg (encZ r).toArray, .agg (encZ s).toArray] w fun v _ => v = .bool (decide (a = b)) := by
  refine ans_of Tryd.func9 rfl Tryd.ntmps9 rfl ?_
  have e1 := ha.from_
  have e2 := ha.to_
  have e3 := hb.from_
  have e4 := hb.to_
  refine CW.seq (CW.region (SW.box rfl rfl fun b1 w1 hw hb1 hB => ?_))
  refine SW.box rfl rfl fun b2 w2 hw2 hb2 hB2 => ?_
  replace hw := Ext.trans hw hw2
  replace hB := hB.ext hw2
  repeat' (first | (show CW _ _ _ _ _ _; first | refine CW.seq ?_ | refine CW.region ?_ | refine CW.ret ?_) | (show Post _ _ _ _ _; refine Post.seq ?_) | refine SW.nil ?_ | (show SW _ _ _ _ (⟨_, _, _, _, _, some _⟩ :: _) _ _; first | refine SW.want_t rfl rfl (by with_reducible rfl) ?_ | refine SW.skip_t rfl rfl (by with_reducible rfl) rfl ?_ | refine SW.splitd rfl rfl rfl (fun h => ?_) (fun h => ?_)) | refine SW.pure rfl rfl ?_ | (show SW _ _ _ _ (⟨_, Op.fieldAddr _ _ _, _, _, _, none⟩ :: _) _ _; refine SW.st (st_field rfl) rfl ?_) | (show SW _ _ _ _ (⟨_, Op.load _ _, _, _, _, none⟩ :: _) _ _; first | refine SW.st (st_load rfl (hB.cell rfl)) rfl ?_ | refine SW.st (st_load rfl (hB2.cell rfl)) rfl ?_) | (show SW _ _ _ _ (⟨_, Op.call ⟨.value (.func _), _, _⟩, _, _, _, none⟩ :: _) _ _; first | (refine SW.call rfl rfl (sameBlocks_ans _ _ _ _ _ _ _ _ _ (ha.free.ext hw) (hb.free.ext hw) hn) ?_; intro v w1 hw1 hv; subst hv; replace hw := Ext.trans hw hw1; replace hB := hB.ext hw1; replace hB2 := hB2.ext hw1; clear hw1) | (refine SW.call rfl rfl (sameInts_ans _ _ _ _ _ _ _ _ _ (ha.types.ext hw) (hb.types.ext hw) hm) ?_; intro v w1 hw1 hv; subst hv; replace hw := Ext.trans hw hw1; replace hB := hB.ext hw1; replace hB2 := hB2.ext hw1; clear hw1)))
  all_goals refine Post.ret1 rfl rfl ⟨_, rfl, hw, ?_⟩
  all_goals obtain ⟨a1, a2, a3, a4⟩ := a
  all_goals obtain ⟨b1, b2, b3, b4⟩ := b
  all_goals simp_all

theorem Zcopy_ans (r : ZRow) (z : Zone) (w : World) (hr : RdZ w r z) (hn : r.Free.n * 24 ≤ 140737488355328) (hm : r.Types.n * 8 ≤ 140737488355328) :
    Ans Tryd.prog 19 [.agg (encZ r).toArray] w fun v w' => ∃ s, v = .agg (encZ s).toArray ∧ OwnZ w' w.heap.size s z ∧ s.Free.n = r.Free.n ∧ s.Types.n = r.Types.n := by
  refine ans_of Tryd.func19 rfl Tryd.ntmps19 rfl ?_
  refine CW.seq (CW.region (SW.box rfl rfl fun b w1 hw hb hB => ?_))
  refine SW.alloc rfl fun b2 w2 hw2 hb2 hB2 => ?_
  have hb2w : w.heap.size ≤ b2 := Nat.le_trans hw.size hb2
  have hne : b2 ≠ b := by have := hB.lt; omega
  replace hw := Ext.trans hw hw2
  replace hB := hB.ext hw2
  have hbw := hb
  repeat' (first | (show CW _ _ _ _ _ _; refine CW.seq ?_) | (show Post _ _ _ _ _; refine Post.seq ?_) | refine SW.nil ?_)
  refine CW.any 7 mixed (rb_tail (by kernel_rfl)) rfl fun w1 hw1 hRB => ?_
  replace hw := Ext.trans hw hw1; replace hB := hB.ext hw1; replace hB2 := hB2.ext hw1; clear hw1
  refine SA.take 0 hRB rfl (by kernel_rfl) (by kernel_rfl) rfl ?_
  repeat ((show SW _ _ _ _ (⟨_, Op.fieldAddr _ _ _, _, _, _, none⟩ :: _) _ _; refine SW.st (st_field rfl) rfl ?_))
  refine SW.tknil ?_
  refine SA.take 1 hRB rfl (by kernel_rfl) (by kernel_rfl) rfl ?_
  repeat ((show SW _ _ _ _ (⟨_, Op.load _ _, _, _, _, none⟩ :: _) _ _; refine SW.st (st_load rfl (hB.cell rfl)) rfl ?_))
  refine SW.tknil ?_
  refine SA.take 3 hRB rfl (by kernel_rfl) (by kernel_rfl) rfl ?_
  repeat ((show SW _ _ _ _ (⟨_, Op.fieldAddr _ _ _, _, _, _, none⟩ :: _) _ _; refine SW.st (st_field rfl) rfl ?_))
  refine SW.tknil ?_
  refine SA.take 4 hRB rfl (by kernel_rfl) (by kernel_rfl) rfl ?_
  repeat ((show SW _ _ _ _ (⟨_, Op.load _ _, _, _, _, none⟩ :: _) _ _; refine SW.st (st_load rfl (hB.cell rfl)) rfl ?_))
  refine SW.tknil ?_
  refine SA.one 2 rfl (by kernel_rfl) rfl ?_
  refine SW.call rfl rfl (CloneBlock_ans _ _ _ _ _ (hr.free.ext hw) hn) fun v w4 hXX hv => ?_
  obtain ⟨X, c4, rfl, hX⟩ := hv
  replace hX := hX.low hw.size
  replace hw := Ext.trans hw hXX
  replace hB := hB.ext hXX
  replace hB2 := hB2.ext hXX
  refine SW.nil (Post.sa hXX ?_)
  refine SA.take 6 hRB rfl (by kernel_rfl) (by kernel_rfl) rfl ?_
  repeat ((show SW _ _ _ _ (⟨_, Op.fieldAddr _ _ _, _, _, _, none⟩ :: _) _ _; refine SW.st (st_field rfl) rfl ?_))
  refine SW.tknil ?_
  refine SA.one 5 rfl (by kernel_rfl) rfl ?_
  refine SW.call rfl rfl (CloneInt_ans _ _ _ _ _ (hr.types.ext hw) hm) fun v w4 hXX hv => ?_
  obtain ⟨Y, d4, rfl, hY⟩ := hv
  replace hY := hY.low hw.size
  replace hX := hX.ext hXX
  replace hw := Ext.trans hw hXX
  replace hB := hB.ext hXX
  replace hB2 := hB2.ext hXX
  refine SW.nil (Post.sa hXX ?_)
  refine SA.done (by kernel_rfl) ?_
  skip
  refine SW.storeB (i := 2) hB rfl rfl rfl rfl fun w5 hB' hg => ?_
  replace hw := hw.own hbw hg
  replace hX := hX.grown hg (.inr (hX.ne_blk hB rfl))
  replace hY := hY.grown hg (.inr (hY.ne_blk hB rfl))
  replace hB2 := hB2.grown hg (by simpa using hne)
  repeat' ((show SW _ _ _ _ (⟨_, Op.fieldAddr _ _ _, _, _, _, none⟩ :: _) _ _; refine SW.st (st_field rfl) rfl ?_))
  refine SW.storeB (i := 3) hB' rfl rfl rfl rfl fun w6 hB'' hg => ?_
  replace hw := hw.own hbw hg
  replace hX := hX.grown hg (.inr (hX.ne_blk hB' rfl))
  replace hY := hY.grown hg (.inr (hY.ne_blk hB' rfl))
  replace hB2 := hB2.grown hg (by simpa using hne)
  repeat' (first | (show CW _ _ _ _ _ _; first | refine CW.seq ?_ | refine CW.region ?_) | (show Post _ _ _ _ _; first | refine Post.seq ?_ | refine Post.np ?_) | refine SW.nil ?_ | (show SW _ _ _ _ (⟨_, Op.load _ _, _, _, _, none⟩ :: _) _ _; refine SW.st (st_loads rfl rfl ((fun _ _ => hB''.cell))) rfl ?_))
  refine SW.storeAgg hB2 rfl rfl rfl rfl (one_z ⟨r.From, r.To, ⟨X, r.Free.n, c4⟩, ⟨Y, r.Types.n, d4⟩⟩) fun w7 hR2 hg => ?_
  replace hw := hw.own hb2w hg
  replace hX := hX.grown hg (.inr (hX.ne_blk hB2 rfl))
  replace hY := hY.grown hg (.inr (hY.ne_blk hB2 rfl))
  repeat' (first | (show CW _ _ _ _ _ _; refine CW.ret ?_) | (show Post _ _ _ _ _; refine Post.seq ?_) | refine SW.nil ?_)
  exact Post.ret1c rfl rfl hR2 rfl ⟨_, rfl, hw, ⟨r.From, r.To, ⟨X, r.Free.n, c4⟩, ⟨Y, r.Types.n, d4⟩⟩, rfl, ⟨hr.from_, hr.to_, hX, hY⟩, rfl, rfl⟩



/-! P3.1 -/
def zoneNewV (f t : Int) : Int × Zone := if zoneOk f t then (0, ⟨f, t, [], List.replicate ((t - f) / 8).toNat 1⟩) else (1, .zero)
def ZoneOut (lo : Nat) (r : Int × Zone) (v : Value) (w : World) : Prop := ∃ s : ZRow, v = .tuple #[.agg (encZ s).toArray, .int .i64 r.1] ∧ OwnZ w lo s r.2
theorem zoneNewV_f {f t : Int} (h : ¬ zoneOk f t) : zoneNewV f t = (1, .zero) := if_neg h
theorem zoneNewV_t {f t : Int} (h : zoneOk f t) : zoneNewV f t = (0, ⟨f, t, [], List.replicate ((t - f) / 8).toNat 1⟩) := if_pos h

theorem tmod16 {x : Int} (h : 0 ≤ x) : x.tmod 16 = x % 16 := Int.tmod_eq_emod_of_nonneg h
theorem rep_set (k i : Nat) (h : i < k) : (List.replicate i (1 : Int) ++ List.replicate (k - i) 0).set i 1 = List.replicate (i + 1) 1 ++ List.replicate (k - (i + 1)) 0 := by
  apply List.ext_getElem (by simp; omega)
  intro j h1 h2
  rw [List.getElem_set]
  by_cases hj : i = j
  · subst hj; simp
  · simp only [hj, if_false, List.getElem_append, List.length_replicate, List.getElem_replicate]
    by_cases h3 : j < i
    · simp [h3, show j < i + 1 by omega]
    · simp [h3, show ¬ j < i + 1 by omega]

theorem Znew_ans (f t : Int) (w : World) (hf : -9223372036854775808 ≤ f ∧ f ≤ 9223372036854775807) (ht : -9223372036854775808 ≤ t ∧ t ≤ 9223372036854775807) : Ans Tryd.prog 52 [.int .i64 f, .int .i64 t] w (ZoneOut w.heap.size (zoneNewV f t)) := by
  refine ans_of Tryd.func52 rfl Tryd.ntmps52 rfl ?_
  refine CW.seq (CW.region (SW.alloc rfl fun b4 w1 hw hb4b hb4 => ?_))
  have hb4w := hb4b
  by_cases hok : zoneOk f t
  · obtain ⟨h1, h2, h3, h4, h5⟩ := id hok
    have m1 := tmod16 h1
    have m2 := tmod16 (show 0 ≤ t by omega)
    rw [zoneNewV_t hok]
    obtain ⟨k, hk⟩ : ∃ k : Nat, (t - f) / 8 = k := ⟨((t - f) / 8).toNat, by omega⟩
    repeat' (first | (show CW _ _ _ _ _ _; first | refine CW.seq ?_ | refine CW.region ?_ | refine CW.condn_f rfl (by omega) ?_ | refine CW.skip ?_) | (show Post _ _ _ _ _; refine Post.seq ?_) | refine SW.nil ?_ | (show SW _ _ _ _ (⟨_, _, _, _, _, some _⟩ :: _) _ _; first | refine SW.want_f rfl rfl (by with_reducible rfl) ?_ | refine SW.splitd_f rfl rfl rfl (by omega) ?_ | refine SW.splitn_f rfl rfl rfl (by omega) ?_) | refine SW.pure rfl rfl ?_ | (show SW _ _ _ _ (⟨_, Op.binOp _ _ _ _ _, _, _, _, none⟩ :: _) _ _; first | refine SW.st (st_sub rfl rfl (by omega) (by omega)) rfl ?_ | refine SW.st (st_quo rfl rfl (by omega) (by omega) (by omega)) rfl ?_ | refine SW.st (st_rem rfl rfl (by omega)) rfl ?_))
    refine SW.make (enc := encI) (k := k) 0 rfl rfl (by omega) (by omega) (by omega) rfl fun A c w2 hw2 hO => ?_
    replace hO := hO.low hw.size
    (replace hw := Ext.trans hw hw2; replace hb4 := hb4.ext hw2)
    repeat' ((show SW _ _ _ _ (⟨_, Op.build _ _, _, _, _, none⟩ :: _) _ _; refine SW.st (st_build rfl rfl) rfl ?_))
    refine SW.alloc rfl fun b6 w1 hw1 hb6b hb6 => ?_
    have hb6w : w.heap.size ≤ b6 := Nat.le_trans hw.size hb6b
    have hne_b4 : b4 ≠ b6 := by have := hb4.lt; omega
    replace hw := Ext.trans hw hw1
    replace hb4 := hb4.ext hw1
    replace hO := hO.ext hw1
    refine SW.storeAgg hb6 rfl rfl rfl rfl (one_z ⟨f, t, .nil, ⟨A, k, c⟩⟩) fun w2 hb6' hg => ?_
    replace hw := hw.own hb6w hg
    replace hO := hO.grown hg (.inr (hO.ne_blk hb6 rfl))
    replace hb4 := hb4.grown hg (by simpa using hne_b4)
    replace hb6 := hb6'
    clear hb6' hw1 hg hb6b
    have hA := hO.sl.base
    repeat' (first | (show CW _ _ _ _ _ _; first | refine CW.seq ?_ | refine CW.region ?_ | refine CW.block ?_) | (show Post _ _ _ _ _; refine Post.seq ?_) | refine SW.nil ?_ | refine SW.pure rfl rfl ?_ | (show SW _ _ _ _ (⟨_, Op.fieldAddr _ _ _, _, _, _, none⟩ :: _) _ _; refine SW.st (st_field rfl) rfl ?_) | (show SW _ _ _ _ (⟨_, Op.call ⟨.builtin .len, _, _⟩, _, _, _, none⟩ :: _) _ _; refine SW.st (st_len rfl) rfl ?_) | (show SW _ _ _ _ (⟨_, Op.load _ _, _, _, _, none⟩ :: _) _ _; refine SW.st (st_load rfl (hb6.cell rfl)) rfl ?_))
    refine CW.loop (fun i : Nat => [(4, .pointer (some ⟨b4, 0, none⟩)), (6, .pointer (some ⟨b6, 0, none⟩)), (40, .int .i64 (k : Int)), (41, .int .i64 (i : Int))])
      (fun i w' => i ≤ k ∧ Ext w w' ∧ Blk w' b4 25 (encZ .zero) ∧ Blk w' b6 25 (encZ ⟨f, t, .nil, ⟨A, k, c⟩⟩) ∧ Own w' w.heap.size 3 1 encI A k c (List.replicate i 1 ++ List.replicate (k - i) 0)) (fun i => k - i) 0
      ⟨rfl, rfl, rfl, rfl, trivial⟩ ⟨by omega, hw, hb4, hb6, by simpa using hO⟩ ?_
    clear hw hb4 hb6 hO
    rintro i w' ⟨hi, hw, hb4, hb6, hO⟩
    have hA := hO.sl.base
    by_cases hik : i < k
    · repeat' (first | (show CW _ _ _ _ _ _; first | refine CW.seq ?_ | refine CW.region ?_ | refine CW.block ?_ | refine CW.condd_t rfl (by omega) ?_ | refine CW.skip ?_) | (show Post _ _ _ _ _; refine Post.seq ?_) | refine SW.nil ?_ | refine SW.pure rfl rfl ?_ | (show SW _ _ _ _ (⟨_, Op.fieldAddr _ _ _, _, _, _, none⟩ :: _) _ _; refine SW.st (st_field rfl) rfl ?_) | (show SW _ _ _ _ (⟨_, Op.indexAddr _ _ _, _, _, _, none⟩ :: _) _ _; refine SW.st (st_indexN rfl rfl (by assumption) (by omega)) rfl ?_) | (show SW _ _ _ _ (⟨_, Op.load _ _, _, _, _, none⟩ :: _) _ _; refine SW.st (st_load rfl (hb6.cell rfl)) rfl ?_))
      refine SW.storeI i hO rfl rfl hik fun w3 hO3 hg => ?_
      replace hw := ext_grown hw hg (Nat.le_refl _) hO.row_ge
      replace hb4 := hb4.grown hg (fun e => hO.ne_blk hb4 rfl e.symm)
      replace hb6 := hb6.grown hg (fun e => hO.ne_blk hb6 rfl e.symm)
      rw [rep_set k i hik] at hO3
      repeat' (first | (show CW _ _ _ _ _ _; refine CW.region ?_) | (show Post _ _ _ _ _; first | refine Post.seq ?_ | refine Post.blk ?_) | refine SW.nil ?_ | refine SW.pure rfl rfl ?_ | (show SW _ _ _ _ (⟨_, Op.binOp _ _ _ _ _, _, _, _, none⟩ :: _) _ _; refine SW.st (st_add rfl rfl (by omega) (by omega)) rfl ?_))
      exact Post.again (i + 1) ⟨rfl, rfl, rfl, rfl, trivial⟩ (by omega) ⟨by omega, hw, hb4, hb6, hO3⟩
    · obtain rfl : i = k := by omega
      simp only [Nat.sub_self, List.replicate_zero, List.append_nil] at hO
      repeat' (first | (show CW _ _ _ _ _ _; first | refine CW.seq ?_ | refine CW.region ?_ | refine CW.condd_f rfl (by omega) ?_ | refine CW.exit ?_) | (show Post _ _ _ _ _; first | refine Post.seq ?_ | refine Post.seq_exit ?_ | refine Post.hit ?_ | refine Post.again_exit ?_) | refine SW.nil ?_ | refine SW.pure rfl rfl ?_ | (show SW _ _ _ _ (⟨_, Op.load _ _, _, _, _, none⟩ :: _) _ _; refine SW.st (st_loads rfl rfl ((fun _ _ => hb6.cell))) rfl ?_))
      refine SW.storeAgg hb4 rfl rfl rfl rfl (one_z ⟨f, t, .nil, ⟨A, i, c⟩⟩) fun w5 hR2 hg => ?_
      replace hw := hw.own hb4w hg
      replace hO := hO.grown hg (.inr (hO.ne_blk hb4 rfl))
      repeat' (first | (show CW _ _ _ _ _ _; refine CW.ret ?_) | (show Post _ _ _ _ _; refine Post.seq ?_) | refine SW.nil ?_ | refine SW.pure rfl rfl ?_)
      refine Post.ret2c rfl rfl rfl hR2 rfl ⟨_, rfl, hw, ⟨f, t, .nil, ⟨A, i, c⟩⟩, rfl, rfl, rfl, Own.nil_ _ _ _ _ _ _, ?_⟩
      simp only [hk, Int.toNat_natCast]
      exact hO
  · rw [zoneNewV_f hok]
    unfold zoneOk at hok
    have m1 := fun h => @tmod16 f h
    have m2 := fun h => @tmod16 t h
    by_cases h1 : 0 ≤ f
    · have m1 := m1 h1
      by_cases h2 : f ≤ t
      · have m2 := m2 (by omega)
        repeat' (first | (show CW _ _ _ _ _ _; first | refine CW.seq ?_ | refine CW.region ?_ | refine CW.condtr rfl (by with_reducible rfl) ?_ | refine CW.condn_t rfl (by omega) ?_) | (show Post _ _ _ _ _; refine Post.seq ?_) | refine SW.nil ?_ | (show SW _ _ _ _ (⟨_, _, _, _, _, some _⟩ :: _) _ _; first | refine SW.want_f rfl rfl (by with_reducible rfl) ?_ | refine SW.skip_f rfl rfl (by with_reducible rfl) rfl ?_ | refine SW.splitd_f rfl rfl rfl (by omega) ?_ | refine SW.splitd rfl rfl rfl (fun h => ?_) (fun h => ?_) | refine SW.splitn rfl rfl rfl (fun h => ?_) (fun h => ?_)) | refine SW.pure rfl rfl ?_ | (show SW _ _ _ _ (⟨_, Op.build _ _, _, _, _, none⟩ :: _) _ _; refine SW.st (st_build rfl rfl) rfl ?_) | (show SW _ _ _ _ (⟨_, Op.binOp _ _ _ _ _, _, _, _, none⟩ :: _) _ _; refine SW.st (st_rem rfl rfl (by omega)) rfl ?_))
        all_goals
          first
            | (exfalso; omega)
            | (refine SW.storeAgg hb4 rfl rfl rfl rfl (one_z .zero) fun w5 hR2 hg => ?_
               replace hw := hw.own hb4w hg
               repeat' (first | (show CW _ _ _ _ _ _; refine CW.ret ?_) | (show Post _ _ _ _ _; first | refine Post.seq ?_ | refine Post.seq_ret ?_) | refine SW.nil ?_ | refine SW.pure rfl rfl ?_)
               exact Post.ret2c rfl rfl rfl hR2 rfl ⟨_, rfl, hw, .zero, rfl, OwnZ.zero _ _⟩)
      · repeat' (first | (show CW _ _ _ _ _ _; first | refine CW.seq ?_ | refine CW.region ?_ | refine CW.condtr rfl (by with_reducible rfl) ?_) | (show Post _ _ _ _ _; refine Post.seq ?_) | refine SW.nil ?_ | (show SW _ _ _ _ (⟨_, _, _, _, _, some _⟩ :: _) _ _; first | refine SW.want_f rfl rfl (by with_reducible rfl) ?_ | refine SW.skip_f rfl rfl (by with_reducible rfl) rfl ?_ | refine SW.splitd_t rfl rfl rfl (by omega) ?_ | refine SW.splitd_f rfl rfl rfl (by omega) ?_ | refine SW.splitd rfl rfl rfl (fun h => ?_) (fun h => ?_)) | refine SW.pure rfl rfl ?_ | (show SW _ _ _ _ (⟨_, Op.build _ _, _, _, _, none⟩ :: _) _ _; refine SW.st (st_build rfl rfl) rfl ?_))
        all_goals
          refine SW.storeAgg hb4 rfl rfl rfl rfl (one_z .zero) fun w5 hR2 hg => ?_
          replace hw := hw.own hb4w hg
          repeat' (first | (show CW _ _ _ _ _ _; refine CW.ret ?_) | (show Post _ _ _ _ _; first | refine Post.seq ?_ | refine Post.seq_ret ?_) | refine SW.nil ?_ | refine SW.pure rfl rfl ?_)
          exact Post.ret2c rfl rfl rfl hR2 rfl ⟨_, rfl, hw, .zero, rfl, OwnZ.zero _ _⟩
    · repeat' (first | (show CW _ _ _ _ _ _; first | refine CW.seq ?_ | refine CW.region ?_ | refine CW.condtr rfl (by with_reducible rfl) ?_) | (show Post _ _ _ _ _; refine Post.seq ?_) | refine SW.nil ?_ | (show SW _ _ _ _ (⟨_, _, _, _, _, some _⟩ :: _) _ _; first | refine SW.skip_f rfl rfl (by with_reducible rfl) rfl ?_ | refine SW.splitd_t rfl rfl rfl (by omega) ?_) | refine SW.pure rfl rfl ?_ | (show SW _ _ _ _ (⟨_, Op.build _ _, _, _, _, none⟩ :: _) _ _; refine SW.st (st_build rfl rfl) rfl ?_))
      all_goals
        refine SW.storeAgg hb4 rfl rfl rfl rfl (one_z .zero) fun w5 hR2 hg => ?_
        replace hw := hw.own hb4w hg
        repeat' (first | (show CW _ _ _ _ _ _; refine CW.ret ?_) | (show Post _ _ _ _ _; first | refine Post.seq ?_ | refine Post.seq_ret ?_) | refine SW.nil ?_ | refine SW.pure rfl rfl ?_)
        exact Post.ret2c rfl rfl rfl hR2 rfl ⟨_, rfl, hw, .zero, rfl, OwnZ.zero _ _⟩
end Go.Proofs.YtfommgdbahemfaaDoor
