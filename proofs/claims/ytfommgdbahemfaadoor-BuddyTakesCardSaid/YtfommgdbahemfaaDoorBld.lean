/-
  Literals of two elements, for the stepper. No program in sight.
-/
import Derived.Test.YtfommgdbahemfaaDoorMor
import Derived.Great.BuildSlice
set_option linter.unusedVariables false
namespace Go.Proofs.YtfommgdbahemfaaDoor
open Go.RowKit

theorem setAt_app : ∀ (vs X Y Z : List Value), vs.length = Y.length → setAt (X ++ Y ++ Z) X.length vs = X ++ vs ++ Z
  | [], X, Y, Z, h => by
    have : Y = [] := List.length_eq_zero_iff.1 (by simpa using h.symm)
    subst this; rfl
  | v :: r, X, [], Z, h => by simp at h
  | v :: r, X, y :: Y, Z, h => by
    have e := setAt_app r (X ++ [v]) Y Z (by simpa using h)
    simp only [List.length_append, List.length_singleton] at e
    simp only [setAt]
    have e2 : (X ++ (y :: Y) ++ Z).set X.length v = X ++ [v] ++ Y ++ Z := by
      rw [List.append_assoc, List.set_append_right _ _ (Nat.le_refl _)]
      simp
    rw [e2, e]
    simp
theorem fill_two {sz : Nat} {u v : Value} {cs ds Z : List Value} (hu : u.cells.toList = cs) (hv : v.cells.toList = ds) (hc : cs.length = sz) (hd : ds.length = sz) (hZ : Z.length = 2 * sz) :
    Instr.fill (fun i => some (i * sz, sz)) Z.toArray [(0, u), (1, v)] = some (cs ++ ds).toArray := by
  have h1 : u.cells.size = sz := by rw [← Array.length_toList, hu, hc]
  have h2 : v.cells.size = sz := by rw [← Array.length_toList, hv, hd]
  have eZ : Z = [] ++ Z.take sz ++ Z.drop sz := by simp
  have s1 : setAt Z 0 cs = cs ++ Z.drop sz := by
    have := setAt_app cs [] (Z.take sz) (Z.drop sz) (by simp; omega)
    rw [← eZ] at this
    simpa using this
  have s2 : setAt (cs ++ Z.drop sz) sz ds = cs ++ ds := by
    have := setAt_app ds cs (Z.drop sz) [] (by simp; omega)
    rw [List.append_nil, hc] at this
    simpa using this
  have fold : ∀ (x : Value) (off : Nat) (X : List Value), Array.foldl (fun (cs : Array Value) (p : Value × Nat) => cs.setIfInBounds (off + p.2) p.1) X.toArray x.cells.zipIdx = (setAt X off x.cells.toList).toArray := fun x off X => by
    have := fold_setAt x.cells.toList 0 off X
    rw [Nat.add_zero] at this
    rw [← this, ← Array.foldl_toList]
    simp [Array.toList_zipIdx]
  simp only [Instr.fill]
  rw [if_neg (by simp; omega)]
  have f1 := fold u (0 * sz) Z
  rw [hu, Nat.zero_mul, s1] at f1
  have f2 := fold v (1 * sz) (cs ++ Z.drop sz)
  rw [hv, Nat.one_mul, s2] at f2
  simp only [Nat.zero_mul, Nat.one_mul] at f1 f2 ⊢
  simp only [f1, f2]
  rw [if_neg (by simp; omega)]

/-- '[]T{x, y}' -/
theorem SW.build2 {α : Type} {P : Program} {n : Nat} {ops : Array Oper} {Q : Exit → Act → World → Prop} {rest : List Oper} {L : Env} {w : World} {d : Nat} {T : TypeId} {pos : String} {af : Array Edge} {t e : TypeId} {z : Value} {sz bytes : Nat} {enc : α → List Value}
    [S : SliceTy P t e sz] [E : ElemTy P e z sz bytes] [C : Enc enc sz] {x y : Operand} {u v : Value} (a b : α) (hx : opv L x = some u) (hy : opv L y = some v) (hu : u.cells.toList = enc a) (hv : v.cells.toList = enc b) (hs : Nat.ble sz 1000 = true)
    (hn : Nat.blt d n = true) (h : ∀ g w', Ext w w' → w.heap.size ≤ g → Own w' w.heap.size e sz enc (some ⟨g, 0, none⟩) 2 2 [a, b] → SW P n ops (.eff Q) rest ((d, .slice (some ⟨g, 0, none⟩) 2 2) :: L) w') :
    SW P n ops (.eff Q) (⟨some d, .buildSlice t 2 #[(0, x), (1, y)], T, pos, af, none⟩ :: rest) L w :=
  ⟨fun q hq => by
    obtain ⟨i, hi, hz, hs', hby⟩ := elem_parts P e (z := z) (sz := sz) (bytes := bytes)
    have hle : sz ≤ 1000 := by simpa using hs
    have hp : 0 < sz := E.pos
    simp only [swp]
    refine wpList_buildSlice rfl t e 2 _ rfl (enc a ++ enc b).toArray i z S.und hi hz (by rw [hs']; omega) (by rw [hs']; omega) ?_ ?_
    · have e1 : (Array.map (fun (p : Nat × Operand) => (p.1, q.eval p.2)) #[(0, x), (1, y)]).toList = [(0, u), (1, v)] := by
        simp [hq.eval hx, hq.eval hy]
      have e2 : ∀ X : Array Value, X = X.toList.toArray := fun X => rfl
      rw [e1, e2 (Array.map _ (Array.range _)), hs']
      exact fill_two hu hv (C.len a) (C.len b) (by simp)
    · refine (h w.heap.size _ (Ext.alloc w _) (Nat.le_refl _) ⟨rfl, .inr ⟨by omega, w.heap.size, _, rfl, Nat.le_refl _, Blk.new w e (enc a ++ enc b), Nat.le_refl _, by simp only [maxLen]; omega, by simp [C.len]; omega, ?_⟩⟩).out _ (hq.put hn _)
      simp only [List.flatMap_cons, List.flatMap_nil, List.append_nil]
      exact List.take_of_length_le (by simp [C.len]; omega)⟩
end Go.Proofs.YtfommgdbahemfaaDoor
