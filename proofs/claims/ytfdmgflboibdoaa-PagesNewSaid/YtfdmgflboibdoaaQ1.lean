/-
  Contract: pages.New.
-/
import Derived.Test.YtfdmgflboibdoaaI6
import Derived.Test.YtfdmgflboibdoaaR8
import Derived.Test.YtfdmgflboibdoaaH2
import Derived.Test.YtfdmgflboibdoaaPNew
import Derived.Test.YtfdmgflboibdoaaBld
set_option linter.unusedVariables false
namespace Go.Proofs.Ytfdmgflboibdoaa
open Go.RowKit

def HeapOut (lo : Nat) (o : Int × Heap) (v : Value) (w : World) : Prop := ∃ s : HRow, v = .tuple #[.agg (encH s).toArray, .int .i64 o.1] ∧ OwnH w lo s o.2
theorem HeapOut.zero (e : Int) (lo : Nat) (w : World) : HeapOut lo (e, ⟨[], [], 0, [], []⟩) (.tuple #[.agg (encH .zero).toArray, .int .i64 e]) w := ⟨.zero, rfl, OwnH.zero w lo⟩
theorem All2.two {α β : Type} {R : α → β → Prop} {a b : α} {c d : β} (h1 : R a c) (h2 : R b d) : All2 R [a, b] [c, d] := All2.snoc (All2.snoc All2.nil h1) h2
theorem OwnZ.small {w : World} {lo : Nat} {r : ZRow} {z : Zone} (h : OwnZ w lo r z) (hs : SmallZ z) : (r.Free.n + 1) * 24 ≤ 140737488355328 ∧ r.Types.n * 8 ≤ 140737488355328 ∧ (-9223372036854775808 ≤ r.From ∧ r.From ≤ 9223372036854775807) ∧ (-9223372036854775808 ≤ r.To ∧ r.To ≤ 9223372036854775807) := by
  have e1 := h.free.sl.len
  have e2 := h.types.sl.len
  have e3 := h.from_
  have e4 := h.to_
  obtain ⟨h1, h2, h3, h4⟩ := hs
  refine ⟨Nat.le_trans (Nat.mul_le_mul_right 24 (show r.Free.n + 1 ≤ 258 by omega)) (by decide), by omega, by omega, by omega⟩
theorem GiveS {w' : World} {lo : Nat} {r : ZRow} {z : Zone} (f s : Int) (h : OwnZ w' lo r z) (hs : SmallZ z) : Ans Try.prog 53 [.agg (encZ r).toArray, .int .i64 f, .int .i64 s] w' (ZoneOut w'.heap.size (giveV z f s)) := by
  obtain ⟨h1, h2, h3, h4⟩ := h.small hs
  exact Zgive_ans r z f s w' h.rd h1 h2 h3 h4

set_option maxHeartbeats 4000000 in
theorem Hnew_ans (A : Option Addr) (n c : Nat) (l : List Region) (split least cpus : Int) (w : World) (hl : Sl w 2 encR A n l) (hn : n ≤ 9223372036854775807) (hsp : -9223372036854775808 ≤ split ∧ split ≤ 9223372036854775807) :
    Ans Try.prog 57 [.slice A n c, .int .i64 split, .int .i64 least, .int .i64 cpus] w (HeapOut w.heap.size (heapNewV l split least cpus)) := by
  refine ans_of Try.func57 rfl Try.ntmps57 rfl ?_
  refine CW.seq (CW.region (SW.alloc rfl fun b8 w1 hw hb8b hb8 => ?_))
  have hb8w := hb8b
  obtain ⟨q, hq⟩ : ∃ q, regionsB l = q := ⟨_, rfl⟩
  have c1 : ∀ w', Ext w w' → Ans Try.prog 84 [.agg (bootCells A n c none 0 0).toArray] w' fun v _ => v = .int .i64 (if q then 0 else 8) := fun w' h => by
    have := Check_ans A n c none 0 0 l [] w' (hl.ext h) (Sl.nil_ _ _ _ _) hn (by omega)
    have e : bootB l [] = q := by
      have : regionsB [] = true := regionsB_t ⟨by simp, fun i h => by simp at h⟩
      simp [bootB, this, hq]
    rwa [e] at this
  cases q
  · simp only [Bool.false_eq_true, if_false] at c1
    rw [heapNewV_8 hq]
    repeat' (first | (show CW _ _ _ _ _ _; first | refine CW.seq ?_ | refine CW.region ?_ | refine CW.condn_t rfl (by omega) ?_) | (show Post _ _ _ _ _; refine Post.seq ?_) | refine SW.nil ?_ | refine SW.pure rfl rfl ?_ | (show SW _ _ _ _ (⟨_, Op.build _ _, _, _, _, none⟩ :: _) _ _; refine SW.st (st_build rfl rfl) rfl ?_) | (show SW _ _ _ _ (⟨_, Op.call ⟨.value (.func _), _, _⟩, _, _, _, none⟩ :: _) _ _; (refine SW.call rfl rfl (c1 _ hw) ?_; intro v w1 hw1 hv; subst hv; replace hw := Ext.trans hw hw1; replace hb8 := hb8.ext hw1; clear hw1)))
    refine SW.storeAgg hb8 rfl rfl rfl rfl (one_h .zero) fun w5 hR2 hg => ?_
    replace hw := hw.own hb8w hg
    repeat' (first | (show CW _ _ _ _ _ _; refine CW.ret ?_) | (show Post _ _ _ _ _; first | refine Post.seq ?_ | refine Post.seq_ret ?_) | refine SW.nil ?_ | refine SW.pure rfl rfl ?_)
    exact Post.ret2c rfl rfl rfl hR2 rfl ⟨_, rfl, hw, HeapOut.zero 8 _ _⟩
  · simp only [if_true] at c1
    have hok := regionsB_iff.1 hq
    repeat' (first | (show CW _ _ _ _ _ _; first | refine CW.seq ?_ | refine CW.region ?_ | refine CW.condn_f rfl (by omega) ?_ | refine CW.skip ?_) | (show Post _ _ _ _ _; refine Post.seq ?_) | refine SW.nil ?_ | refine SW.pure rfl rfl ?_ | (show SW _ _ _ _ (⟨_, Op.build _ _, _, _, _, none⟩ :: _) _ _; refine SW.st (st_build rfl rfl) rfl ?_) | (show SW _ _ _ _ (⟨_, Op.call ⟨.value (.func _), _, _⟩, _, _, _, none⟩ :: _) _ _; (refine SW.call rfl rfl (c1 _ hw) ?_; intro v w1 hw1 hv; subst hv; replace hw := Ext.trans hw hw1; replace hb8 := hb8.ext hw1; clear hw1)))
    refine SW.call rfl rfl (Znew_ans 0 split _ (by omega) hsp) fun v w4 hw4 hv => ?_
    obtain ⟨o1, ho1⟩ : ∃ o, zoneNewV 0 split = o := ⟨_, rfl⟩
    rw [ho1] at hv
    obtain ⟨u1, rfl, hs1⟩ := hv
    replace hs1 := hs1.low hw.size
    (replace hw := Ext.trans hw hw4; replace hb8 := hb8.ext hw4)
    clear c1
    have hlt8 := hb8.lt
    repeat' (refine SW.pure rfl rfl ?_)
    refine SW.alloc rfl fun b10 w1 hw1 hb10b hb10 => ?_
    skip
    refine SW.storeAgg hb10 rfl rfl rfl rfl (one_z u1) fun w2 hb10' hg => ?_
    have hXX := hw1.own hb10b hg
    have hb10w : w.heap.size ≤ b10 := Nat.le_trans hw.size hb10b
    replace hw := Ext.trans hw hXX
    replace hb8 := hb8.ext hXX
    replace hs1 := hs1.ext hXX
    replace hb10 := hb10'
    clear hb10' hw1 hg hXX
    have hne810 : b8 ≠ b10 := by omega
    repeat' (first | (show CW _ _ _ _ _ _; first | refine CW.seq ?_ | refine CW.region ?_) | (show Post _ _ _ _ _; refine Post.seq ?_) | refine SW.nil ?_ | refine SW.pure rfl rfl ?_)
    refine SW.call rfl rfl (Znew_ans split 256 _ hsp (by omega)) fun v w4 hw4 hv => ?_
    obtain ⟨o2, ho2⟩ : ∃ o, zoneNewV split 256 = o := ⟨_, rfl⟩
    rw [ho2] at hv
    obtain ⟨u2, rfl, hs2⟩ := hv
    replace hs2 := hs2.low hw.size
    (replace hw := Ext.trans hw hw4; replace hb8 := hb8.ext hw4; replace hb10 := hb10.ext hw4; replace hs1 := hs1.ext hw4)
    repeat' (refine SW.pure rfl rfl ?_)
    have hlt10 := hb10.lt
    have hne8 := hb8.lt
    refine SW.alloc rfl fun b12 w1 hw1 hb12b hb12 => ?_
    skip
    refine SW.storeAgg hb12 rfl rfl rfl rfl (one_z u2) fun w2 hb12' hg => ?_
    have hXX := hw1.own hb12b hg
    have hb12w : w.heap.size ≤ b12 := Nat.le_trans hw.size hb12b
    replace hw := Ext.trans hw hXX
    replace hb8 := hb8.ext hXX
    replace hb10 := hb10.ext hXX
    replace hs1 := hs1.ext hXX
    replace hs2 := hs2.ext hXX
    replace hb12 := hb12'
    clear hb12' hw1 hg hXX
    have hne1012 : b10 ≠ b12 := by omega
    have hne812 : b8 ≠ b12 := by omega
    by_cases hz : zoneOk 0 split
    · have g1 : o1.1 = 0 := by rw [← ho1, zoneNewV_t hz]
      have g2 : o2.1 = 0 := by rw [← ho2, zoneNewV_t (split_ok.2 hz)]
      rw [g1, g2]
      by_cases ha : newArgs split least cpus
      · obtain ⟨_, ⟨a1, a2⟩, a3, a4⟩ := id ha
        obtain ⟨z1, z2, z3, z4, z5⟩ := id hz
        rw [heapNewV_0 hq ha]
        have hA := hl.base
        have hll := hl.len
        repeat' (first | (show CW _ _ _ _ _ _; first | refine CW.seq ?_ | refine CW.region ?_ | refine CW.block ?_ | refine CW.condd_f rfl (by omega) ?_ | refine CW.skip ?_) | (show Post _ _ _ _ _; refine Post.seq ?_) | refine SW.nil ?_ | (show SW _ _ _ _ (⟨_, _, _, _, _, some _⟩ :: _) _ _; first | refine SW.want_f rfl rfl (by with_reducible rfl) ?_ | refine SW.splitd_f rfl rfl rfl (by omega) ?_ | refine SW.splitn_f rfl rfl rfl (by omega) ?_) | refine SW.pure rfl rfl ?_ | (show SW _ _ _ _ (⟨_, Op.call ⟨.builtin .len, _, _⟩, _, _, _, none⟩ :: _) _ _; refine SW.st (st_len rfl) rfl ?_))
        have i1 : o1.2 = (givenZ l split 0).1 := by rw [← ho1]; rfl
        have i2 : o2.2 = (givenZ l split 0).2 := by rw [← ho2]; rfl
        rw [i1] at hs1
        rw [i2] at hs2
        refine CW.loop (fun t : Nat × ZRow × ZRow => [(1, .int .i64 split), (2, .int .i64 least), (3, .int .i64 cpus), (8, .pointer (some ⟨b8, 0, none⟩)), (10, .pointer (some ⟨b10, 0, none⟩)), (12, .pointer (some ⟨b12, 0, none⟩)), (55, .slice A n c), (56, .int .i64 (n : Int)), (57, .int .i64 (t.1 : Int))])
          (fun t w' => t.1 ≤ n ∧ Ext w w' ∧ Blk w' b8 27 (encH .zero) ∧ Blk w' b10 38 (encZ t.2.1) ∧ Blk w' b12 38 (encZ t.2.2) ∧ OwnZ w' w.heap.size t.2.1 (givenZ l split t.1).1 ∧ OwnZ w' w.heap.size t.2.2 (givenZ l split t.1).2) (fun t => n - t.1) (0, u1, u2)
          ⟨rfl, rfl, rfl, rfl, rfl, rfl, rfl, rfl, rfl, trivial⟩ ⟨by omega, hw, hb8, hb10, hb12, hs1, hs2⟩ ?_
        clear hw hb8 hb10 hb12 hs1 hs2
        rintro ⟨k, u1, u2⟩ w' ⟨hk, hw, hb8, hb10, hb12, hs1, hs2⟩
        simp only at hk hb10 hb12 hs1 hs2 ⊢
        have hm := small_newZ (l := l) hz (stopOf l k).toNat
        by_cases hkn : k < n
        · have hkl := hl.lt hkn
          have hrok := (hok.2 k hkl).1
          unfold Region.ok at hrok
          have hgs := given_succ hok (split := split) hkl
          obtain ⟨e1, he1⟩ : ∃ e, belowOf l[k] split = e := ⟨_, rfl⟩
          have hbo : max 0 (min (l[k].From + l[k].Size) split - l[k].From) = e1 := he1
          have hbb : 0 ≤ e1 ∧ e1 ≤ l[k].Size := by omega
          rw [he1] at hgs
          repeat' (first | (show CW _ _ _ _ _ _; first | refine CW.seq ?_ | refine CW.region ?_ | refine CW.block ?_ | refine CW.condd_t rfl (by omega) ?_ | refine CW.skip ?_) | (show Post _ _ _ _ _; refine Post.seq ?_) | refine SW.nil ?_ | refine SW.pure rfl rfl ?_ | (show SW _ _ _ _ (⟨_, Op.indexAddr _ _ _, _, _, _, none⟩ :: _) _ _; refine SW.st (st_indexN rfl rfl (by assumption) (by omega)) rfl ?_) | (show SW _ _ _ _ (⟨_, Op.load _ _, _, _, _, none⟩ :: _) _ _; refine SW.st (st_loadsx hw rfl rfl ((hl.all hkn))) rfl ?_))
          have l10 := hb10.lt
          have l12 := hb12.lt
          refine SW.alloc rfl fun b15 w1 hw1 hb15b hb15 => ?_
          skip
          refine SW.storeAgg hb15 rfl rfl rfl rfl (Enc.one (enc := encR) _) fun w2 hb15' hg => ?_
          have hXX := hw1.own hb15b hg
          have hb15w : w.heap.size ≤ b15 := Nat.le_trans hw.size hb15b
          replace hw := Ext.trans hw hXX
          replace hb8 := hb8.ext hXX
          replace hb10 := hb10.ext hXX
          replace hb12 := hb12.ext hXX
          replace hs1 := hs1.ext hXX
          replace hs2 := hs2.ext hXX
          replace hb15 := hb15'
          clear hb15' hw1 hg hXX
          have d10 : b10 ≠ b15 := by omega
          have d12 : b12 ≠ b15 := by omega
          by_cases h2 : e1 < l[k].Size
          · by_cases h1 : 0 < e1
            case' pos =>
              repeat' (first | (show CW _ _ _ _ _ _; first | refine CW.seq ?_ | refine CW.region ?_ | refine CW.condd_t rfl (by omega) ?_) | (show Post _ _ _ _ _; refine Post.seq ?_) | refine SW.nil ?_ | refine SW.pure rfl rfl ?_ | (show SW _ _ _ _ (⟨_, Op.fieldAddr _ _ _, _, _, _, none⟩ :: _) _ _; refine SW.st (st_field rfl) rfl ?_) | (show SW _ _ _ _ (⟨_, Op.binOp _ _ _ _ _, _, _, _, none⟩ :: _) _ _; first | refine SW.st (st_add rfl rfl (by omega) (by omega)) rfl ?_ | refine SW.st (st_sub rfl rfl (by omega) (by omega)) rfl ?_) | (show SW _ _ _ _ (⟨_, Op.load _ _, _, _, _, none⟩ :: _) _ _; first | refine SW.st (st_load rfl (hb15.cell rfl)) rfl ?_ | refine SW.st (st_loads rfl rfl ((fun _ _ => hb10.cell))) rfl ?_) | (refine SW.st (st_max rfl rfl) rfl ?_) | (refine SW.st (st_min rfl rfl) rfl ?_))
              rw [hbo]
              refine SW.call rfl rfl (GiveS l[k].From e1 hs1 hm.1) fun v w4 hw4 hv => ?_
              obtain ⟨u3, rfl, hs3⟩ := hv
              replace hs3 := hs3.low hw.size
              (replace hw := Ext.trans hw hw4; replace hb8 := hb8.ext hw4; replace hb10 := hb10.ext hw4; replace hb12 := hb12.ext hw4; replace hb15 := hb15.ext hw4; replace hs1 := hs1.ext hw4; replace hs2 := hs2.ext hw4)
              repeat' (refine SW.pure rfl rfl ?_)
              refine SW.storeAgg hb10 rfl rfl rfl rfl (one_z u3) fun w5 hb10' hg => ?_
              replace hw := hw.own hb10w hg
              replace hs2 := hs2.blk hb10 hg rfl rfl
              replace hs3 := hs3.blk hb10 hg rfl rfl
              replace hb8 := hb8.grown hg (by simpa using hne810)
              replace hb12 := hb12.grown hg (by simpa using Ne.symm hne1012)
              replace hb15 := hb15.grown hg (by simpa using Ne.symm d10)
              replace hb10 := hb10'
              clear hb10' hg hs1
              have hs1 := hs3
              rw [giveIf_t h1] at hs1
              clear hs3
              repeat' (first | (show CW _ _ _ _ _ _; first | refine CW.seq ?_ | refine CW.region ?_) | (show Post _ _ _ _ _; refine Post.seq ?_) | refine SW.nil ?_ | (show SW _ _ _ _ (⟨_, Op.fieldAddr _ _ _, _, _, _, none⟩ :: _) _ _; refine SW.st (st_field rfl) rfl ?_))
            case' neg =>
              repeat' (first | (show CW _ _ _ _ _ _; first | refine CW.seq ?_ | refine CW.region ?_ | refine CW.condd_t rfl (by omega) ?_ | refine CW.condd_f rfl (by omega) ?_ | refine CW.skip ?_) | (show Post _ _ _ _ _; refine Post.seq ?_) | refine SW.nil ?_ | refine SW.pure rfl rfl ?_ | (show SW _ _ _ _ (⟨_, Op.fieldAddr _ _ _, _, _, _, none⟩ :: _) _ _; refine SW.st (st_field rfl) rfl ?_) | (show SW _ _ _ _ (⟨_, Op.binOp _ _ _ _ _, _, _, _, none⟩ :: _) _ _; first | refine SW.st (st_add rfl rfl (by omega) (by omega)) rfl ?_ | refine SW.st (st_sub rfl rfl (by omega) (by omega)) rfl ?_) | (show SW _ _ _ _ (⟨_, Op.load _ _, _, _, _, none⟩ :: _) _ _; refine SW.st (st_load rfl (hb15.cell rfl)) rfl ?_) | (refine SW.st (st_max rfl rfl) rfl ?_) | (refine SW.st (st_min rfl rfl) rfl ?_))
              rw [hbo]
              have hs3 := hs1
              clear hs1
              obtain ⟨u3, hu3⟩ : ∃ u, u = u1 := ⟨_, rfl⟩
              rw [← hu3] at hs3 hb10
              have hs1 := hs3
              rw [giveIf_f (z := (givenZ l split k).1) (f := l[k].From) h1] at hs1
              clear hs3
            all_goals
              repeat' (first | (show CW _ _ _ _ _ _; first | refine CW.region ?_ | refine CW.condd_t rfl (by omega) ?_) | (show Post _ _ _ _ _; refine Post.seq ?_) | refine SW.nil ?_ | refine SW.pure rfl rfl ?_ | (show SW _ _ _ _ (⟨_, Op.fieldAddr _ _ _, _, _, _, none⟩ :: _) _ _; refine SW.st (st_field rfl) rfl ?_) | (show SW _ _ _ _ (⟨_, Op.binOp _ _ _ _ _, _, _, _, none⟩ :: _) _ _; first | refine SW.st (st_add rfl rfl (by omega) (by omega)) rfl ?_ | refine SW.st (st_sub rfl rfl (by omega) (by omega)) rfl ?_) | (show SW _ _ _ _ (⟨_, Op.load _ _, _, _, _, none⟩ :: _) _ _; first | refine SW.st (st_load rfl (hb15.cell rfl)) rfl ?_ | refine SW.st (st_loads rfl rfl ((fun _ _ => hb12.cell))) rfl ?_))
              refine SW.call rfl rfl (GiveS (l[k].From + e1) (l[k].Size - e1) hs2 hm.2) fun v w4 hw4 hv => ?_
              obtain ⟨u4, rfl, hs3⟩ := hv
              replace hs3 := hs3.low hw.size
              (replace hw := Ext.trans hw hw4; replace hb8 := hb8.ext hw4; replace hb10 := hb10.ext hw4; replace hb12 := hb12.ext hw4; replace hb15 := hb15.ext hw4; replace hs1 := hs1.ext hw4; replace hs2 := hs2.ext hw4)
              repeat' (refine SW.pure rfl rfl ?_)
              refine SW.storeAgg hb12 rfl rfl rfl rfl (one_z u4) fun w5 hb12' hg => ?_
              replace hw := hw.own hb12w hg
              replace hs1 := hs1.blk hb12 hg rfl rfl
              replace hs3 := hs3.blk hb12 hg rfl rfl
              replace hb8 := hb8.grown hg (by simpa using hne812)
              replace hb10 := hb10.grown hg (by simpa using hne1012)
              replace hb12 := hb12'
              clear hb12' hg hs2
              have hs2 := hs3
              rw [giveIf_t (by omega)] at hs2
              clear hs3
              repeat' (first | (show CW _ _ _ _ _ _; refine CW.region ?_) | (show Post _ _ _ _ _; first | refine Post.seq ?_ | refine Post.blk ?_) | refine SW.nil ?_ | refine SW.pure rfl rfl ?_ | (show SW _ _ _ _ (⟨_, Op.binOp _ _ _ _ _, _, _, _, none⟩ :: _) _ _; refine SW.st (st_add rfl rfl (by omega) (by omega)) rfl ?_))
            all_goals
              refine Post.again (k + 1, u3, u4) ⟨rfl, rfl, rfl, rfl, rfl, rfl, rfl, rfl, rfl, trivial⟩ (by simp only; omega) ⟨by simp only; omega, hw, hb8, hb10, hb12, ?_, ?_⟩
              · simp only
                rw [hgs]
                exact hs1
              · simp only
                rw [hgs]
                exact hs2
          · have h1 : 0 < e1 := by omega
            repeat' (first | (show CW _ _ _ _ _ _; first | refine CW.seq ?_ | refine CW.region ?_ | refine CW.condd_t rfl (by omega) ?_) | (show Post _ _ _ _ _; refine Post.seq ?_) | refine SW.nil ?_ | refine SW.pure rfl rfl ?_ | (show SW _ _ _ _ (⟨_, Op.fieldAddr _ _ _, _, _, _, none⟩ :: _) _ _; refine SW.st (st_field rfl) rfl ?_) | (show SW _ _ _ _ (⟨_, Op.binOp _ _ _ _ _, _, _, _, none⟩ :: _) _ _; first | refine SW.st (st_add rfl rfl (by omega) (by omega)) rfl ?_ | refine SW.st (st_sub rfl rfl (by omega) (by omega)) rfl ?_) | (show SW _ _ _ _ (⟨_, Op.load _ _, _, _, _, none⟩ :: _) _ _; first | refine SW.st (st_load rfl (hb15.cell rfl)) rfl ?_ | refine SW.st (st_loads rfl rfl ((fun _ _ => hb10.cell))) rfl ?_) | (refine SW.st (st_max rfl rfl) rfl ?_) | (refine SW.st (st_min rfl rfl) rfl ?_))
            rw [hbo]
            refine SW.call rfl rfl (GiveS l[k].From e1 hs1 hm.1) fun v w4 hw4 hv => ?_
            obtain ⟨u3, rfl, hs3⟩ := hv
            replace hs3 := hs3.low hw.size
            (replace hw := Ext.trans hw hw4; replace hb8 := hb8.ext hw4; replace hb10 := hb10.ext hw4; replace hb12 := hb12.ext hw4; replace hb15 := hb15.ext hw4; replace hs1 := hs1.ext hw4; replace hs2 := hs2.ext hw4)
            repeat' (refine SW.pure rfl rfl ?_)
            refine SW.storeAgg hb10 rfl rfl rfl rfl (one_z u3) fun w5 hb10' hg => ?_
            replace hw := hw.own hb10w hg
            replace hs2 := hs2.blk hb10 hg rfl rfl
            replace hs3 := hs3.blk hb10 hg rfl rfl
            replace hb8 := hb8.grown hg (by simpa using hne810)
            replace hb12 := hb12.grown hg (by simpa using Ne.symm hne1012)
            replace hb15 := hb15.grown hg (by simpa using Ne.symm d10)
            replace hb10 := hb10'
            clear hb10' hg hs1
            have hs1 := hs3
            rw [giveIf_t h1] at hs1
            clear hs3
            repeat' (first | (show CW _ _ _ _ _ _; first | refine CW.seq ?_ | refine CW.region ?_) | (show Post _ _ _ _ _; refine Post.seq ?_) | refine SW.nil ?_ | (show SW _ _ _ _ (⟨_, Op.fieldAddr _ _ _, _, _, _, none⟩ :: _) _ _; refine SW.st (st_field rfl) rfl ?_))
            repeat' (first | (show CW _ _ _ _ _ _; first | refine CW.region ?_ | refine CW.condd_f rfl (by omega) ?_ | refine CW.skip ?_) | (show Post _ _ _ _ _; first | refine Post.seq ?_ | refine Post.blk ?_) | refine SW.nil ?_ | refine SW.pure rfl rfl ?_ | (show SW _ _ _ _ (⟨_, Op.binOp _ _ _ _ _, _, _, _, none⟩ :: _) _ _; refine SW.st (st_add rfl rfl (by omega) (by omega)) rfl ?_) | (show SW _ _ _ _ (⟨_, Op.load _ _, _, _, _, none⟩ :: _) _ _; refine SW.st (st_load rfl (hb15.cell rfl)) rfl ?_))
            have hs3 := hs2
            clear hs2
            obtain ⟨u4, hu4⟩ : ∃ u, u = u2 := ⟨_, rfl⟩
            rw [← hu4] at hs3 hb12
            have hs2 := hs3
            rw [giveIf_f (z := (givenZ l split k).2) (f := l[k].From + e1) (s := l[k].Size - e1) (by omega)] at hs2
            clear hs3
            refine Post.again (k + 1, u3, u4) ⟨rfl, rfl, rfl, rfl, rfl, rfl, rfl, rfl, rfl, trivial⟩ (by simp only; omega) ⟨by simp only; omega, hw, hb8, hb10, hb12, ?_, ?_⟩
            · simp only
              rw [hgs]
              exact hs1
            · simp only
              rw [hgs]
              exact hs2
        · have ek : k = l.length := by omega
          have hga := given_all hok split
          rw [← ek] at hga
          rw [hga] at hs1 hs2
          repeat' (first | (show CW _ _ _ _ _ _; first | refine CW.seq ?_ | refine CW.region ?_ | refine CW.condd_f rfl (by omega) ?_ | refine CW.exit ?_) | (show Post _ _ _ _ _; first | refine Post.seq ?_ | refine Post.seq_exit ?_ | refine Post.hit ?_ | refine Post.again_exit ?_) | refine SW.nil ?_ | refine SW.pure rfl rfl ?_ | (show SW _ _ _ _ (⟨_, Op.load _ _, _, _, _, none⟩ :: _) _ _; first | refine SW.st (st_loads rfl rfl ((fun _ _ => hb10.cell))) rfl ?_ | refine SW.st (st_loads rfl rfl ((fun _ _ => hb12.cell))) rfl ?_))
          refine SW.build2 (enc := encZ) u1 u2 rfl rfl rfl rfl rfl rfl fun g w2 hg2 hgw hZ => ?_
          replace hZ := hZ.low hw.size
          (replace hw := Ext.trans hw hg2; replace hb8 := hb8.ext hg2; replace hs1 := hs1.ext hg2; replace hs2 := hs2.ext hg2)
          repeat' (refine SW.pure rfl rfl ?_)
          refine SW.build2 (enc := encI) least least rfl rfl rfl rfl rfl rfl fun g' w3 hg3 hgw' hM => ?_
          replace hM := hM.low hw.size
          (replace hw := Ext.trans hw hg3; replace hb8 := hb8.ext hg3; replace hs1 := hs1.ext hg3; replace hs2 := hs2.ext hg3; replace hZ := hZ.ext hg3)
          repeat' (first | refine SW.pure rfl rfl ?_ | (show SW _ _ _ _ (⟨_, Op.build _ _, _, _, _, none⟩ :: _) _ _; refine SW.st (st_build rfl rfl) rfl ?_))
          refine SW.storeAgg hb8 rfl rfl rfl rfl (one_h ⟨⟨some ⟨g, 0, none⟩, 2, 2⟩, ⟨some ⟨g', 0, none⟩, 2, 2⟩, cpus, .nil, .nil⟩) fun w5 hR2 hg => ?_
          replace hw := hw.own hb8w hg
          replace hs1 := hs1.blk hb8 hg rfl rfl
          replace hs2 := hs2.blk hb8 hg rfl rfl
          replace hZ := hZ.grown hg (.inr (hZ.ne_blk hb8 rfl))
          replace hM := hM.grown hg (.inr (hM.ne_blk hb8 rfl))
          repeat' (first | (show CW _ _ _ _ _ _; refine CW.ret ?_) | (show Post _ _ _ _ _; refine Post.seq ?_) | refine SW.nil ?_ | refine SW.pure rfl rfl ?_)
          exact Post.ret2c rfl rfl rfl hR2 rfl ⟨_, rfl, hw, ⟨⟨some ⟨g, 0, none⟩, 2, 2⟩, ⟨some ⟨g', 0, none⟩, 2, 2⟩, cpus, .nil, .nil⟩, rfl, ⟨rfl, hM, Own.nil_ _ _ _ _ _ _, ⟨[u1, u2], ⟨hZ, All2.two hs1 hs2⟩⟩, ⟨[], .nil _ _⟩⟩⟩
      · rw [heapNewV_1 hq ha]
        have ha' : ¬ ((0 ≤ least ∧ least ≤ 256) ∧ 1 ≤ cpus ∧ cpus ≤ 4) := fun h => ha ⟨hz, h⟩
        repeat' (first | (show CW _ _ _ _ _ _; first | refine CW.seq ?_ | refine CW.region ?_ | refine CW.condtr rfl (by with_reducible rfl) ?_ | refine CW.condd_t rfl (by omega) ?_) | (show Post _ _ _ _ _; refine Post.seq ?_) | refine SW.nil ?_ | (show SW _ _ _ _ (⟨_, _, _, _, _, some _⟩ :: _) _ _; first | refine SW.want_f rfl rfl (by with_reducible rfl) ?_ | refine SW.skip_f rfl rfl (by with_reducible rfl) rfl ?_ | refine SW.splitn_f rfl rfl rfl (by omega) ?_ | refine SW.splitd rfl rfl rfl (fun h => ?_) (fun h => ?_)) | refine SW.pure rfl rfl ?_ | (show SW _ _ _ _ (⟨_, Op.build _ _, _, _, _, none⟩ :: _) _ _; refine SW.st (st_build rfl rfl) rfl ?_))
        all_goals first | (exfalso; omega) | skip
        all_goals
          refine SW.storeAgg hb8 rfl rfl rfl rfl (one_h .zero) fun w5 hR2 hg => ?_
          replace hw := hw.own hb8w hg
          repeat' (first | (show CW _ _ _ _ _ _; refine CW.ret ?_) | (show Post _ _ _ _ _; first | refine Post.seq ?_ | refine Post.seq_ret ?_) | refine SW.nil ?_ | refine SW.pure rfl rfl ?_)
          exact Post.ret2c rfl rfl rfl hR2 rfl ⟨_, rfl, hw, HeapOut.zero 1 _ _⟩
    · have g1 : o1.1 = 1 := by rw [← ho1, zoneNewV_f hz]
      rw [g1, heapNewV_1 hq (fun h => hz h.1)]
      repeat' (first | (show CW _ _ _ _ _ _; first | refine CW.seq ?_ | refine CW.region ?_ | refine CW.condtr rfl (by with_reducible rfl) ?_) | (show Post _ _ _ _ _; refine Post.seq ?_) | refine SW.nil ?_ | (show SW _ _ _ _ (⟨_, _, _, _, _, some _⟩ :: _) _ _; first | refine SW.skip_f rfl rfl (by with_reducible rfl) rfl ?_ | refine SW.splitn_t rfl rfl rfl (by omega) ?_) | refine SW.pure rfl rfl ?_ | (show SW _ _ _ _ (⟨_, Op.build _ _, _, _, _, none⟩ :: _) _ _; refine SW.st (st_build rfl rfl) rfl ?_))
      refine SW.storeAgg hb8 rfl rfl rfl rfl (one_h .zero) fun w5 hR2 hg => ?_
      replace hw := hw.own hb8w hg
      repeat' (first | (show CW _ _ _ _ _ _; refine CW.ret ?_) | (show Post _ _ _ _ _; first | refine Post.seq ?_ | refine Post.seq_ret ?_) | refine SW.nil ?_ | refine SW.pure rfl rfl ?_)
      exact Post.ret2c rfl rfl rfl hR2 rfl ⟨_, rfl, hw, HeapOut.zero 1 _ _⟩
end Go.Proofs.Ytfdmgflboibdoaa
