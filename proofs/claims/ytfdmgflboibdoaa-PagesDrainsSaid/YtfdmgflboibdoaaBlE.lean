/-
  A whole struct is stored into an element of a slice of the call's own, for the stepper. No program in sight.
-/
import Derived.Test.YtfdmgflboibdoaaCopy
set_option linter.unusedVariables false
namespace Go.Proofs.Ytfdmgflboibdoaa
open Go.RowKit

theorem SW.storeElem {α : Type} {P : Program} {n : Nat} {ops : Array Oper} {Q : Exit → Act → World → Prop} {rest : List Oper} {L : Env} {w : World} {T : TypeId} {pos : String} {af : Array Edge} {lo : Nat} {e : TypeId} {sz : Nat} {enc : α → List Value} [E : Enc enc sz] {A : Option Addr} {m c : Nat} {l : List α} {t : TypeId} [G : AggTy P t sz] {x y : Operand} (k : Nat) (x' : α)
    (hO : Own w lo e sz enc A m c l) (hx : opv L x = some (.pointer (some ((A.getD default).add (k * sz))))) (hy : opv L y = some (.agg (enc x').toArray)) (hk : k < m)
    (h : ∀ w', Own w' lo e sz enc A m c (l.set k x') → w.grownBy w' (ownB A c) → SW P n ops (.eff Q) rest L w') : SW P n ops (.eff Q) (⟨none, .store t x y, T, pos, af, none⟩ :: rest) L w :=
  ⟨fun a ha => by
    have hc : 0 < c := by have := hO.le; omega
    obtain ⟨g, r, rfl, hlo, hB, hr, hmc, hmx, how⟩ := hO.opened hc
    have hkl : k < l.length := by rw [hO.len]; exact hk
    have hks : (k + 1) * sz ≤ m * sz := Nat.mul_le_mul_right _ hk
    rw [Nat.add_mul, Nat.one_mul] at hks
    have hfl : (l.flatMap enc).length = m * sz := by rw [length_flatMap_enc, hO.len]
    have e0 : (((some (⟨g, 0, none⟩ : Addr)).getD default).add (k * sz)) = ⟨g, k * sz, none⟩ := addr_of g _
    rw [e0] at hx
    have el : l = l.take k ++ [l[k]] ++ l.drop (k + 1) := by simp
    have hX : ((l.take k).flatMap enc).length = k * sz := by rw [length_flatMap_enc, List.length_take, Nat.min_eq_left (by omega)]
    have e1 : l.flatMap enc ++ r = (l.take k).flatMap enc ++ enc l[k] ++ ((l.drop (k + 1)).flatMap enc ++ r) := by
      have e3 : l.flatMap enc = (l.take k ++ [l[k]] ++ l.drop (k + 1)).flatMap enc := by rw [← el]
      rw [e3, List.flatMap_append, List.flatMap_append]
      simp only [List.flatMap_cons, List.flatMap_nil, List.append_nil, List.append_assoc]
    have hst := run_storeCells_at P g (k * sz) e (enc x') 0 (l.flatMap enc ++ r).toArray w hB (by simp only [List.size_toArray, List.length_append, hfl, E.len]; omega) (E.one x')
    have e2 : ((l.flatMap enc ++ r).toArray.toList.take (k * sz + 0) ++ enc x' ++ (l.flatMap enc ++ r).toArray.toList.drop (k * sz + 0 + (enc x').length)) = (l.set k x').flatMap enc ++ r := by
      have := lay_mid ((l.take k).flatMap enc) (enc l[k]) ((l.drop (k + 1)).flatMap enc ++ r) (enc x') (by rw [E.len, E.len]) hX.symm
      rw [← e1] at this
      unfold lay at this
      simp only [Nat.add_zero]
      rw [this, List.set_eq_take_append_cons_drop, if_pos hkl]
      simp
    rw [e2] at hst
    simp only [swp, wpList, Region.wanted, if_true]
    refine .inl ?_
    unfold Oper.wp
    have hrun : (execOp a.eval ⟨none, .store t x y, T, pos, af, none⟩).run P w = .ok .skip (w.setRow g ((l.set k x').flatMap enc ++ r).toArray) := by
      simp [execOp, ha.eval hx, ha.eval hy, Instr.storeAt, Instr.sureAddr, storeVar, Value.cells, run_sizeOf G.size, E.len, hst]
    rw [hrun, Oper.upon_skip]
    obtain ⟨hB', hg'⟩ := grown_setRow (cs := (l.set k x').flatMap enc ++ r) hB
    refine (h _ (Own.closed (by rw [List.length_set]; exact hO.len) hB' hr hmc hc hmx hlo) ?_).out _ ha
    rw [how]
    exact hg'⟩
end Go.Proofs.Ytfdmgflboibdoaa
