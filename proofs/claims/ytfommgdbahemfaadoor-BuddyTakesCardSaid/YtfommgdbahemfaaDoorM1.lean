/-
  Contracts: the marks of pages.
-/
import Derived.Test.YtfommgdbahemfaaDoorI0
import Derived.Test.YtfommgdbahemfaaDoorCopy
import Derived.Test.YtfommgdbahemfaaDoorH1
import Derived.Test.YtfommgdbahemfaaDoorPHeap
set_option linter.unusedVariables false
namespace Go.Proofs.YtfommgdbahemfaaDoor
open Go.RowKit

section
variable {P : Program} {L : Env} {w : World} {d : Option Nat} {T : TypeId} {pos : String} {af : Array Edge} {g : Option (Nat × Bool)}
theorem st_indexArr {t e : TypeId} {len sz : Nat} [c : ArrTy P t len e sz] {x y : Operand} {ad : Addr} {i : Int} (k : Nat) (hx : opv L x = some (.pointer (some ad))) (hy : opv L y = some (.int .i64 i)) (hi : i = (k : Int)) (hk : k < len) :
    St P ⟨d, .indexAddr t x y, T, pos, af, g⟩ L w (.pointer (some (ad.add (k * sz)))) :=
  ⟨fun _ a ha w' _ => by
    subst hi
    have e1 := ha.eval hx
    have e2 := ha.eval hy
    generalize a.eval = ρ at *
    simp [execOp, e1, e2, Instr.indexAt, Instr.sureAddr, asIntOf, run_underlying c.und, run_sizeOf c.size, hk]⟩
end
theorem Post.ret0 {P : Program} {fn : Func} {R : Ending → World → Prop} {n : Nat} {L : Env} {w : World} (hr : fn.results = #[]) (h : R (.returned (.tuple #[])) w) : Post n (bodyPost P fn R) .ret L w :=
  ⟨fun a ha => ⟨ha.defers, _, by simpa using ResIs.results (rs := []) hr .nil ha, h⟩⟩
theorem Post.end0 {P : Program} {fn : Func} {R : Ending → World → Prop} {n : Nat} {L : Env} {w : World} (hr : fn.results = #[]) (h : R (.returned (.tuple #[])) w) : Post n (bodyPost P fn R) .normal L w :=
  ⟨fun a ha => ⟨ha.defers, _, by simpa using ResIs.results (rs := []) hr .nil ha, h⟩⟩

/-- the cells of marks -/
def cellsM (p : Nat → Bool) (N : Nat) (bad : Bool) : List Value := (marksOf p N).map Value.bool ++ [.bool bad]
theorem cellsM_len (p : Nat → Bool) (N : Nat) (bad : Bool) : (cellsM p N bad).length = N + 1 := by simp [cellsM, marksOf]
theorem cellsM_bad (p : Nat → Bool) (N : Nat) (bad : Bool) : (cellsM p N bad)[N]? = some (.bool bad) := by
  unfold cellsM
  rw [List.getElem?_append_right (by simp [marksOf])]
  simp [marksOf]
theorem cellsM_at (p : Nat → Bool) (N : Nat) (bad : Bool) {i : Nat} (h : i < N) : (cellsM p N bad)[i]? = some (.bool (p i)) := by
  unfold cellsM
  rw [List.getElem?_append_left (by simp [marksOf]; omega)]
  simp [marksOf, h]
theorem cellsM_setBad (p : Nat → Bool) (N : Nat) (bad b : Bool) : (cellsM p N bad).set N (.bool b) = cellsM p N b := by
  unfold cellsM
  rw [List.set_append_right _ _ (by simp [marksOf])]
  simp [marksOf]
theorem cellsM_set (p : Nat → Bool) (N : Nat) (bad : Bool) {i : Nat} (h : i < N) : (cellsM p N bad).set i (.bool true) = cellsM (fun j => if j = i then true else p j) N bad := by
  unfold cellsM
  rw [List.set_append_left _ _ (by simp [marksOf]; omega), ← marksOf_set, List.map_set]
theorem cellsM_congr {p q : Nat → Bool} {N : Nat} {bad : Bool} (h : ∀ i, i < N → p i = q i) : cellsM p N bad = cellsM q N bad := by
  unfold cellsM; rw [marksOf_congr h]

set_option maxHeartbeats 4000000 in
theorem mark_ans (b : Nat) (p : Nat → Bool) (bad : Bool) (N : Nat) (hN : N = 256) (a n : Int) (w : World) (hB : Blk w b 125 (cellsM p N bad)) (hn : 0 ≤ n ∧ n ≤ 16) :
    AnsX Tryd.prog 88 [.pointer (some ⟨b, 0, none⟩), .int .i64 a, .int .i64 n] w fun v w' => ∃ p' bad', Blk w' b 125 (cellsM p' N bad') ∧ w.grownBy w' (some b) ∧ ((okM p a n ∧ bad' = bad ∧ p' = addM p a n) ∨ (¬ okM p a n ∧ bad' = true)) := by
  refine ansx_of Tryd.func88 rfl Tryd.ntmps88 rfl ?_
  have hg0 : w.grownBy w (some b) := World.grownBy.refl _ _
  have hw := Ext.refl w
  by_cases hin : 0 ≤ a ∧ a < 256 ∧ n ≤ 256 - a
  · obtain ⟨h1, h2, h3⟩ := id hin
    obtain ⟨k, rfl⟩ := Int.eq_ofNat_of_zero_le h1
    obtain ⟨m, rfl⟩ := Int.eq_ofNat_of_zero_le hn.1
    repeat' (first | (show CW _ _ _ _ _ _; first | refine CW.seq ?_ | refine CW.region ?_ | refine CW.block ?_ | refine CW.condd_f rfl (by omega) ?_ | refine CW.skip ?_) | (show Post _ _ _ _ _; refine Post.seq ?_) | refine SW.nil ?_ | (show SW _ _ _ _ (⟨_, _, _, _, _, some _⟩ :: _) _ _; first | refine SW.want_f rfl rfl (by with_reducible rfl) ?_ | refine SW.splitd_f rfl rfl rfl (by omega) ?_) | refine SW.pure rfl rfl ?_ | (show SW _ _ _ _ (⟨_, Op.binOp _ _ _ _ _, _, _, _, none⟩ :: _) _ _; refine SW.st (st_sub rfl rfl (by omega) (by omega)) rfl ?_))
    clear hw
    refine CW.loop (fun j : Nat => [(0, .pointer (some ⟨b, 0, none⟩)), (1, .int .i64 (k : Int)), (2, .int .i64 (m : Int)), (6, .int .i64 ((k + j : Nat) : Int))])
      (fun j w' => j ≤ m ∧ Blk w' b 125 (cellsM (addM p k (j : Int)) N bad) ∧ w.grownBy w' (some b) ∧ ∀ i : Nat, k ≤ i → i < k + j → p i = false) (fun j => m - j) 0
      ⟨rfl, rfl, rfl, rfl, trivial⟩ ⟨by omega, by rwa [cellsM_congr (q := p) (fun i _ => by simp [addM] <;> omega)], hg0, fun i h1 h2 => by omega⟩ ?_
    clear hB hg0
    rintro j w' ⟨hj, hB, hg, hI⟩
    have hw := Ext.refl w'
    by_cases hjm : j < m
    · have hlt : k + j < N := by omega
      have hc := hB.cell (cellsM_at _ N bad hlt)
      have hv : addM p k (j : Int) (k + j) = p (k + j) := by simp [addM]
      rw [hv] at hc
      have hc' : w'.cell? (((⟨b, 0, none⟩ : Addr).add 0).add ((k + j) * 1)) = some (.bool (p (k + j))) := by rw [add_add]; simpa using hc
      cases hp : p (k + j)
      · rw [hp] at hc'
        repeat' (first | (show CW _ _ _ _ _ _; first | refine CW.seq ?_ | refine CW.region ?_ | refine CW.block ?_ | refine CW.condfr rfl (by with_reducible rfl) ?_ | refine CW.condd_t rfl (by omega) ?_ | refine CW.skip ?_) | (show Post _ _ _ _ _; refine Post.seq ?_) | refine SW.nil ?_ | refine SW.pure rfl rfl ?_ | (show SW _ _ _ _ (⟨_, Op.fieldAddr _ _ _, _, _, _, none⟩ :: _) _ _; refine SW.st (st_field rfl) rfl ?_) | (show SW _ _ _ _ (⟨_, Op.nilCheck _, _, _, _, none⟩ :: _) _ _; refine SW.st (st_nilCheck rfl) rfl ?_) | (show SW _ _ _ _ (⟨_, Op.binOp _ _ _ _ _, _, _, _, none⟩ :: _) _ _; refine SW.st (st_add rfl rfl (by omega) (by omega)) rfl ?_) | (show SW _ _ _ _ (⟨_, Op.load _ _, _, _, _, none⟩ :: _) _ _; refine SW.st (st_load rfl (hc')) rfl ?_) | (refine SW.st (st_indexArr (k + j) rfl rfl rfl (by omega)) rfl ?_))
        have hadr : (⟨b, 0, none⟩ : Addr).add (k + j) = ((⟨b, 0, none⟩ : Addr).add 0).add ((k + j) * 1) := by rw [add_add]; simp
        refine SW.storeB (i := k + j) hB (by rw [hadr]; rfl) rfl rfl (by rw [cellsM_len]; simp; omega) fun w3 hB' hg' => ?_
        rw [cellsM_set _ _ _ hlt, cellsM_congr (q := addM p k ((j + 1 : Nat) : Int)) (fun i _ => by
          by_cases e : i = k + j
          · subst e; simp [addM]; omega
          · simp only [e, if_false, addM]
            congr 1
            by_cases e1 : i < k + j
            · rw [decide_eq_true (show (i : Int) < (k : Int) + (j : Int) by omega), decide_eq_true (show (i : Int) < (k : Int) + ((j + 1 : Nat) : Int) by omega)]
            · rw [decide_eq_false (show ¬ (i : Int) < (k : Int) + (j : Int) by omega), decide_eq_false (show ¬ (i : Int) < (k : Int) + ((j + 1 : Nat) : Int) by omega)])] at hB'
        have hgg := grown_trans hg hg' (.inl rfl)
        clear hw
        have hw := Ext.refl w3
        repeat' (first | (show CW _ _ _ _ _ _; refine CW.region ?_) | (show Post _ _ _ _ _; first | refine Post.seq ?_ | refine Post.blk ?_) | refine SW.nil ?_ | refine SW.pure rfl rfl ?_ | (show SW _ _ _ _ (⟨_, Op.binOp _ _ _ _ _, _, _, _, none⟩ :: _) _ _; refine SW.st (st_add rfl rfl (by omega) (by omega)) rfl ?_))
        refine Post.again (j + 1) ⟨rfl, rfl, rfl, rfl, trivial⟩ (by omega) ⟨by omega, hB', hgg, fun i h1 h2 => ?_⟩
        by_cases e : i = k + j
        · subst e; exact hp
        · exact hI i h1 (by omega)
      · rw [hp] at hc'
        repeat' (first | (show CW _ _ _ _ _ _; first | refine CW.seq ?_ | refine CW.region ?_ | refine CW.block ?_ | refine CW.condtr rfl (by with_reducible rfl) ?_ | refine CW.condd_t rfl (by omega) ?_ | refine CW.skip ?_) | (show Post _ _ _ _ _; refine Post.seq ?_) | refine SW.nil ?_ | refine SW.pure rfl rfl ?_ | (show SW _ _ _ _ (⟨_, Op.fieldAddr _ _ _, _, _, _, none⟩ :: _) _ _; refine SW.st (st_field rfl) rfl ?_) | (show SW _ _ _ _ (⟨_, Op.nilCheck _, _, _, _, none⟩ :: _) _ _; refine SW.st (st_nilCheck rfl) rfl ?_) | (show SW _ _ _ _ (⟨_, Op.binOp _ _ _ _ _, _, _, _, none⟩ :: _) _ _; refine SW.st (st_add rfl rfl (by omega) (by omega)) rfl ?_) | (show SW _ _ _ _ (⟨_, Op.load _ _, _, _, _, none⟩ :: _) _ _; refine SW.st (st_load rfl (hc')) rfl ?_) | (refine SW.st (st_indexArr (k + j) rfl rfl rfl (by omega)) rfl ?_))
        subst hN
        refine SW.storeB (i := 256) hB rfl rfl rfl (by rw [cellsM_len]; rfl) fun w3 hB' hg' => ?_
        rw [cellsM_setBad] at hB'
        clear hw
        have hw := Ext.refl w3
        repeat' (first | (show CW _ _ _ _ _ _; refine CW.ret ?_) | (show Post _ _ _ _ _; first | refine Post.seq ?_ | refine Post.seq_ret ?_ | refine Post.blk_ret ?_ | refine Post.again_ret ?_) | refine SW.nil ?_)
        exact Post.ret0 rfl ⟨_, rfl, _, true, hB', grown_trans hg hg' (.inl rfl), .inr ⟨(fun h => by have := h.2.2.2 (k + j) (by omega) (by omega); rw [hp] at this; cases this), rfl⟩⟩
    · obtain rfl : j = m := by omega
      repeat' (first | (show CW _ _ _ _ _ _; first | refine CW.seq ?_ | refine CW.region ?_ | refine CW.condd_f rfl (by omega) ?_ | refine CW.exit ?_) | (show Post _ _ _ _ _; first | refine Post.seq ?_ | refine Post.seq_exit ?_ | refine Post.hit ?_ | refine Post.again_exit ?_) | refine SW.nil ?_ | refine SW.pure rfl rfl ?_ | (show SW _ _ _ _ (⟨_, Op.binOp _ _ _ _ _, _, _, _, none⟩ :: _) _ _; refine SW.st (st_add rfl rfl (by omega) (by omega)) rfl ?_))
      exact Post.end0 rfl ⟨_, rfl, _, bad, hB, hg, .inl ⟨⟨h1, h2, h3, fun i h4 h5 => hI i (by omega) (by omega)⟩, rfl, rfl⟩⟩
  · have hno : ¬ okM p a n := fun h => hin ⟨h.1, h.2.1, h.2.2.1⟩
    subst hN
    repeat' (first | (show CW _ _ _ _ _ _; first | refine CW.seq ?_ | refine CW.region ?_ | refine CW.condtr rfl (by with_reducible rfl) ?_ | refine CW.condd_t rfl (by omega) ?_) | (show Post _ _ _ _ _; refine Post.seq ?_) | refine SW.nil ?_ | (show SW _ _ _ _ (⟨_, _, _, _, _, some _⟩ :: _) _ _; first | refine SW.want_f rfl rfl (by with_reducible rfl) ?_ | refine SW.skip_f rfl rfl (by with_reducible rfl) rfl ?_ | refine SW.splitd rfl rfl rfl (fun h => ?_) (fun h => ?_)) | refine SW.pure rfl rfl ?_ | (show SW _ _ _ _ (⟨_, Op.fieldAddr _ _ _, _, _, _, none⟩ :: _) _ _; refine SW.st (st_field rfl) rfl ?_) | (show SW _ _ _ _ (⟨_, Op.nilCheck _, _, _, _, none⟩ :: _) _ _; refine SW.st (st_nilCheck rfl) rfl ?_) | (show SW _ _ _ _ (⟨_, Op.binOp _ _ _ _ _, _, _, _, none⟩ :: _) _ _; refine SW.st (st_sub rfl rfl (by omega) (by omega)) rfl ?_))
    all_goals
      first
        | (exfalso; omega)
        | (refine SW.storeB (i := 256) hB rfl rfl rfl (by rw [cellsM_len]; rfl) fun w3 hB' hg' => ?_
           rw [cellsM_setBad] at hB'
           clear hw
           have hw := Ext.refl w3
           repeat' (first | (show CW _ _ _ _ _ _; refine CW.ret ?_) | (show Post _ _ _ _ _; first | refine Post.seq ?_ | refine Post.seq_ret ?_) | refine SW.nil ?_)
           exact Post.ret0 rfl ⟨_, rfl, _, true, hB', hg', .inr ⟨hno, rfl⟩⟩)
end Go.Proofs.YtfommgdbahemfaaDoor
