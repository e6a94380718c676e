/-
  More operations for the stepper: nil checks, structs that are built, bits, reslicing, closures, results in cells. No program in sight.
-/
import Derived.Test.YtfommgdbahemfaaDoorPackKmemSizes1
import Derived.Laws.CopyRow
import Derived.Laws.StructEq
import Derived.Lib.ConvBytes
import Derived.Laws.Strings
set_option linter.unusedVariables false
namespace Go.Proofs.YtfommgdbahemfaaDoor
open Go.RowKit

section
variable {P : Program} {L : Env} {w : World} {d : Option Nat} {T : TypeId} {pos : String} {af : Array Edge} {g : Option (Nat × Bool)}
theorem st_nilCheck {x : Operand} {ad : Addr} (hx : opv L x = some (.pointer (some ad))) : St P ⟨d, .nilCheck x, T, pos, af, g⟩ L w (.pointer (some ad)) :=
  ⟨fun _ a ha w' _ => by have e1 := ha.eval hx; generalize a.eval = ρ at *; simp [execOp, e1]⟩
theorem st_nilCheckF {x : Operand} {f : FuncId} {c : Array Value} (hx : opv L x = some (.func (.func f) #[] c)) : St P ⟨d, .nilCheck x, T, pos, af, g⟩ L w (.func (.func f) #[] c) :=
  ⟨fun _ a ha w' _ => by have e1 := ha.eval hx; generalize a.eval = ρ at *; simp [execOp, e1]⟩
theorem st_cap {t : TypeId} {e : TypeId} {sz : Nat} [c : SliceTy P t e sz] {x : Operand} {A : Option Addr} {n cap : Nat} (hx : opv L x = some (.slice A n cap)) :
    St P ⟨d, .call ⟨.builtin .cap, #[x], #[t]⟩, T, pos, af, g⟩ L w (.int .i64 cap) :=
  ⟨fun _ a ha w' _ => by simp [execOp, resolve, invoke, builtin, ha.eval hx, Builtin.cap_, run_underlying c.und, goInt]⟩
theorem st_min {t u : TypeId} {x y : Operand} {i j : Int} (hx : opv L x = some (.int .i64 i)) (hy : opv L y = some (.int .i64 j)) :
    St P ⟨d, .call ⟨.builtin .min, #[x, y], #[t, u]⟩, T, pos, af, g⟩ L w (.int .i64 (min i j)) :=
  ⟨fun _ a ha w' _ => by
    have e : (if j < i then j else i) = min i j := by split <;> omega
    simp [execOp, resolve, invoke, builtin, ha.eval hx, ha.eval hy, Builtin.min_, Builtin.min2, e]⟩
theorem st_max {t u : TypeId} {x y : Operand} {i j : Int} (hx : opv L x = some (.int .i64 i)) (hy : opv L y = some (.int .i64 j)) :
    St P ⟨d, .call ⟨.builtin .max, #[x, y], #[t, u]⟩, T, pos, af, g⟩ L w (.int .i64 (max i j)) :=
  ⟨fun _ a ha w' _ => by
    have e : (if i < j then j else i) = max i j := by split <;> omega
    simp [execOp, resolve, invoke, builtin, ha.eval hx, ha.eval hy, Builtin.max_, Builtin.max2, e]⟩
theorem st_func {f : FuncId} {cap : List Operand} {vs : List Value} (hx : opvs L cap = some vs) : St P ⟨d, .makeFunc (.func f) #[] cap.toArray, T, pos, af, g⟩ L w (.func (.func f) #[] vs.toArray) :=
  ⟨fun _ a ha w' _ => by simp [execOp, Instr.makeFunc, ← ha.evals hx]⟩
end

/-! structs that are built out of parts -/
def setAt (cs : List Value) (off : Nat) : List Value → List Value
  | [] => cs
  | v :: r => setAt (cs.set off v) (off + 1) r
def fillL (places : List (Nat × Nat)) (cells : List Value) : List (Nat × Value) → Option (List Value)
  | [] => some cells
  | (i, v) :: rest => match places[i]? with
    | none => none
    | some (off, size) => bif Nat.beq v.cells.size size && Nat.ble (off + v.cells.size) cells.length then fillL places (setAt cells off v.cells.toList) rest else none
theorem setAt_len : ∀ (vs cs : List Value) (off : Nat), (setAt cs off vs).length = cs.length
  | [], _, _ => rfl
  | v :: r, cs, off => by simp [setAt, setAt_len r]
theorem fold_setAt : ∀ (vs : List Value) (k off : Nat) (cs : List Value), (vs.zipIdx k).foldl (fun (cs : Array Value) (p : Value × Nat) => cs.setIfInBounds (off + p.2) p.1) cs.toArray = (setAt cs (off + k) vs).toArray
  | [], _, _, _ => rfl
  | v :: r, k, off, cs => by
    simp only [List.zipIdx_cons, List.foldl_cons, setAt]
    rw [List.setIfInBounds_toArray, fold_setAt r (k + 1) off]
    rfl
theorem fill_of {places : List (Nat × Nat)} : ∀ (ps : List (Nat × Value)) (cells cs : List Value), fillL places cells ps = some cs → Instr.fill (places.toArray[·]?) cells.toArray ps = some cs.toArray
  | [], _, _, h => by simp [fillL] at h; subst h; rfl
  | (i, v) :: rest, cells, cs, h => by
    simp only [fillL] at h
    simp only [Instr.fill, List.getElem?_toArray]
    split at h
    · cases h
    · rename_i off size hp
      simp only [cond_eq_ite] at h
      split at h
      · rename_i hb
        simp only [Bool.and_eq_true] at hb
        have h1 := Nat.eq_of_beq_eq_true hb.1
        have h2 : off + v.cells.size ≤ cells.length := by simpa using hb.2
        simp only [hp]
        have := fold_setAt v.cells.toList 0 off cells
        simp only [Nat.add_zero] at this
        have e2 : Array.foldl (fun (cs : Array Value) (x : Value × Nat) => cs.setIfInBounds (off + x.2) x.1) cells.toArray v.cells.zipIdx = (setAt cells off v.cells.toList).toArray := by
          rw [← this, ← Array.foldl_toList]
          simp [Array.toList_zipIdx]
        rw [if_neg (by simp; omega)]
        have e3 := fill_of (places := places) rest _ _ h
        rw [← e2] at e3
        simpa using e3
      · cases h

class BuildTy (P : Program) (t : TypeId) (places : outParam (List (Nat × Nat))) (zc : outParam (List Value)) : Prop where
  und : ((P.underlying t).bind fun | .struct fs => some ((fs.toList.map fun f => (f.offset, (P.info? f.type).map (·.size)))) | _ => none) = some (places.map fun p => (p.1, some p.2))
  zero : ((P.info? t).bind (·.zero)).map (·.cells) = some zc.toArray

def partsV (L : Env) : List (Nat × Operand) → Option (List (Nat × Value))
  | [] => some []
  | (i, x) :: r => match opv L x, partsV L r with
    | some v, some vs => some ((i, v) :: vs)
    | _, _ => none
theorem Fit.parts {n : Nat} {a : Act} {L : Env} (h : Fit n a L) : ∀ {xs : List (Nat × Operand)} {vs : List (Nat × Value)}, partsV L xs = some vs → xs.map (fun p => (p.1, a.eval p.2)) = vs
  | [], vs, e => by simp [partsV] at e; subst e; rfl
  | (i, x) :: r, vs, e => by
    simp only [partsV] at e
    cases hx : opv L x with
    | none => simp [hx] at e
    | some v =>
      cases hr : partsV L r with
      | none => simp [hx, hr] at e
      | some us =>
        simp [hx, hr] at e
        subst e
        simp [h.eval hx, h.parts hr]

theorem run_mapM_places {P : Program} (w : World) : ∀ (fs : List Field) (places : List (Nat × Nat)), (fs.map fun f => (f.offset, (P.info? f.type).map (·.size))) = (places.map fun p => (p.1, some p.2)) →
    (fs.mapM (m := Sem) fun f => do return (f.offset, ← sizeOf f.type)).run P w = .ok places w
  | [], [], _ => by simp
  | f :: fs, p :: ps, h => by
    simp only [List.map_cons, List.cons.injEq, Prod.mk.injEq] at h
    have ih := run_mapM_places w fs ps h.2
    have hs := run_sizeOf h.1.2 w
    rw [List.mapM_cons]
    simp only [Sem.run_bind, hs, Result.andThen, pure, Sem.run]
    rw [h.1.1]
    have ih' : (fs.mapM (m := Sem) fun f => do return (f.offset, ← sizeOf f.type)).run P w = .ok ps w := ih
    simp only [pure] at ih'
    rw [ih']
  | [], _ :: _, h => by simp at h
  | _ :: _, [], h => by simp at h

section
variable {P : Program} {L : Env} {w : World} {d : Option Nat} {T : TypeId} {pos : String} {af : Array Edge} {g : Option (Nat × Bool)}
theorem st_build {t : TypeId} {places : List (Nat × Nat)} {zc cs : List Value} [c : BuildTy P t places zc] {ps : List (Nat × Operand)} {pv : List (Nat × Value)} (hp : partsV L ps = some pv) (hf : fillL places zc pv = some cs) :
    St P ⟨d, .build t ps.toArray, T, pos, af, g⟩ L w (.agg cs.toArray) :=
  ⟨fun n a ha w' _ => by
    have hz := c.zero
    cases hi : P.info? t with
    | none => simp [hi] at hz
    | some inf =>
      cases hz' : inf.zero with
      | none => simp [hi, hz'] at hz
      | some z =>
        simp [hi, hz'] at hz
        have hu := c.und
        cases hd : P.underlying t with
        | none => simp [hd] at hu
        | some D =>
          cases D <;> simp only [hd, Option.bind_some, reduceCtorEq, Option.some.injEq] at hu
          rename_i fs
          have hm := run_mapM_places (P := P) w' fs.toList places hu
          have hfill := fill_of pv zc cs hf
          have hpv := ha.parts hp
          have hmm : (fs.mapM (m := Sem) fun f => do return (f.offset, ← sizeOf f.type)).run P w' = .ok places.toArray w' := by
            rw [Array.mapM_eq_mapM_toList]
            have e : ∀ (x : Sem (List (Nat × Nat))), x.run P w' = .ok places w' → (Functor.map List.toArray x).run P w' = .ok places.toArray w' := fun x hx => by simp [hx, Result.andThen]
            exact e _ hm
          have hzv : (zeroValue t).run P w' = .ok z w' := by simp [zeroValue, typeInfo, hi, hz']
          have hb : (Instr.build t (ps.map fun p => (p.1, a.eval p.2)).toArray).run P w' = .ok (.agg cs.toArray) w' := by
            unfold Instr.build
            simp only [Sem.run_bind, hzv, Result.andThen, run_underlying hd]
            have e := hmm
            simp only [pure] at e ⊢
            rw [e]
            simp only [hz, hpv, hfill, Sem.run]
          have hx : (execOp a.eval ⟨d, .build t ps.toArray, T, pos, af, g⟩).run P w' = (do pure (Next.value (← Instr.build t (ps.map fun p => (p.1, a.eval p.2)).toArray)) : Sem Next).run P w' := by simp [execOp]
          rw [hx, Sem.run_bind, hb]
          rfl⟩
end

/-! results in cells -/
inductive ResIs (P : Program) (L : Env) (w : World) : List ResultVar → List Value → Prop
  | nil : ResIs P L w [] []
  | tmp {t : Nat} {v : Value} {rs : List ResultVar} {vs : List Value} : get L t = some v → ResIs P L w rs vs → ResIs P L w (.tmp t :: rs) (v :: vs)
  | cell {t ty b tb m : Nat} {cs : List Value} {rs : List ResultVar} {vs : List Value} : AggTy P ty m → get L t = some (.pointer (some ⟨b, 0, none⟩)) → Blk w b tb cs → cs.length = m → ResIs P L w rs vs → ResIs P L w (.cell t ty :: rs) (.agg cs.toArray :: vs)

theorem ResIs.run {P : Program} {L : Env} {w : World} {n : Nat} {a : Act} (ha : Fit n a L) {rs : List ResultVar} {vs : List Value} (h : ResIs P L w rs vs) :
    (rs.mapM (m := Sem) fun | .tmp t => pure (a.tmps.getD t undef) | .cell b t => do loadVar t (← asAddr (a.tmps.getD b undef))).run P w = .ok vs w := by
  induction h with
  | nil => rfl
  | @tmp t v rs vs hg hr ih =>
    rw [List.mapM_cons]
    simp only [Sem.run_bind, ha.has _ _ hg, pure, Sem.run, Result.andThen]
    simp only [pure] at ih
    rw [ih]
  | @cell t ty b tb m cs rs vs c hg hB hl hr ih =>
    rw [List.mapM_cons]
    have hload : (loadVar ty ⟨b, 0, none⟩).run P w = .ok (.agg cs.toArray) w := by
      subst hl
      simp [loadVar, run_isAgg_agg, run_sizeOf c.size, run_loadCells_list (P := P) w ⟨b, 0, none⟩ cs (fun j v hv => hB.cell hv)]
    have hasA : (asAddr (a.tmps.getD t undef)).run P w = .ok ⟨b, 0, none⟩ w := by rw [ha.has _ _ hg]; rfl
    simp only [Sem.run_bind, hasA, Result.andThen, hload]
    rw [ih]
    rfl

section
variable {P : Program} {fn : Func} {R : Ending → World → Prop} {n : Nat} {L : Env} {w : World}
theorem ResIs.results {rs : List ResultVar} {vs : List Value} (hr : fn.results = rs.toArray) (h : ResIs P L w rs vs) {a : Act} (ha : Fit n a L) :
    (results fn a.tmps).run P w = .ok (if h : vs.toArray.size = 1 then vs.toArray[0] else .tuple vs.toArray) w := by
  have h1 := h.run ha
  unfold Go.results
  rw [hr, Array.mapM_eq_mapM_toList]
  have e : ∀ (x : Sem (List Value)), x.run P w = .ok vs w → (do let vs ← (Functor.map List.toArray x : Sem (Array Value)); pure (if h : vs.size = 1 then vs[0] else .tuple vs) : Sem Value).run P w = .ok (if h : vs.toArray.size = 1 then vs.toArray[0] else .tuple vs.toArray) w := fun x hx => by
    simp [hx, Result.andThen]
  exact e _ h1

theorem Post.ret1c {t ty b tb m : Nat} {cs : List Value} [c : AggTy P ty m] (hr : fn.results = #[.cell t ty]) (hv : get L t = some (.pointer (some ⟨b, 0, none⟩))) (hB : Blk w b tb cs) (hl : Nat.beq cs.length m = true) (h : R (.returned (.agg cs.toArray)) w) : Post n (bodyPost P fn R) .ret L w :=
  ⟨fun a ha => ⟨ha.defers, _, by simpa using ResIs.results (rs := [.cell t ty]) hr (.cell c hv hB (Nat.eq_of_beq_eq_true hl) .nil) ha, h⟩⟩
theorem Post.ret2c {t u ty b tb m : Nat} {cs : List Value} {x : Value} [c : AggTy P ty m] (hr : fn.results = #[.cell t ty, .tmp u]) (hv : get L t = some (.pointer (some ⟨b, 0, none⟩))) (hx : get L u = some x) (hB : Blk w b tb cs) (hl : Nat.beq cs.length m = true) (h : R (.returned (.tuple #[.agg cs.toArray, x])) w) : Post n (bodyPost P fn R) .ret L w :=
  ⟨fun a ha => ⟨ha.defers, _, by simpa using ResIs.results (rs := [.cell t ty, .tmp u]) hr (.cell c hv hB (Nat.eq_of_beq_eq_true hl) (.tmp hx .nil)) ha, h⟩⟩
theorem Post.ret3c {t u q ty b tb m : Nat} {cs : List Value} {x y : Value} [c : AggTy P ty m] (hr : fn.results = #[.cell t ty, .tmp u, .tmp q]) (hv : get L t = some (.pointer (some ⟨b, 0, none⟩))) (hx : get L u = some x) (hy : get L q = some y) (hB : Blk w b tb cs) (hl : Nat.beq cs.length m = true) (h : R (.returned (.tuple #[.agg cs.toArray, x, y])) w) : Post n (bodyPost P fn R) .ret L w :=
  ⟨fun a ha => ⟨ha.defers, _, by simpa using ResIs.results (rs := [.cell t ty, .tmp u, .tmp q]) hr (.cell c hv hB (Nat.eq_of_beq_eq_true hl) (.tmp hx (.tmp hy .nil))) ha, h⟩⟩
end

/-! a function value is called -/
section
variable {P : Program} {n : Nat} {ops : Array Oper} {Q : Exit → Act → World → Prop} {rest : List Oper} {L : Env} {w : World}
theorem run_callv {a : Act} {d : Option Nat} {fo : Operand} {f : FuncId} {cap : List Value} {xs : List Operand} {ts : Array TypeId} {T : TypeId} {pos : String} {af : Array Edge} {g : Option (Nat × Bool)} {w' : World}
    [hb : Body P f] (hf : a.eval fo = .func (.func f) #[] cap.toArray) : (execOp a.eval ⟨d, .call ⟨.value fo, xs.toArray, ts⟩, T, pos, af, g⟩).run P w' = .ok (.enter f (xs.map a.eval ++ cap).toArray) w' := by
  simp only [execOp, resolve, hf, Deferred.ofValue, Sem.run_bind, pure, Sem.run, Result.andThen, invoke, List.map_toArray]
  have := hb.out (xs.map a.eval ++ cap).toArray w'
  simpa using this

theorem SW.callv {d : Nat} {fo : Operand} {f : FuncId} {cap : List Value} {xs : List Operand} {vs : List Value} {ts : Array TypeId} {T : TypeId} {pos : String} {af : Array Edge} {R : Value → World → Prop}
    [Body P f] (hf : opv L fo = some (.func (.func f) #[] cap.toArray)) (hx : opvs L xs = some vs) (hn : Nat.blt d n = true) (hc : Ans P f (vs ++ cap) w R) (h : ∀ v w', Ext w w' → R v w' → SW P n ops (.eff Q) rest ((d, v) :: L) w') :
    SW P n ops (.eff Q) (⟨some d, .call ⟨.value fo, xs.toArray, ts⟩, T, pos, af, none⟩ :: rest) L w :=
  ⟨fun a ha => by
    simp only [swp, wpList, Region.wanted, if_true]
    refine .inl ?_
    unfold Oper.wp
    rw [run_callv (ha.eval hf), Oper.upon_enter, ha.evals hx]
    refine Calls.mono hc.out ?_
    rintro e w' ⟨v, rfl, hx', hv⟩
    exact (h v w' hx' hv).out _ (ha.put hn v)⟩

theorem SW.qcallv {K : Env → Prop} {d : Nat} {fo : Operand} {f : FuncId} {cap : List Value} {xs : List Operand} {vs : List Value} {ts : Array TypeId} {T : TypeId} {pos : String} {af : Array Edge} {v : Value}
    [Body P f] (hf : opv L fo = some (.func (.func f) #[] cap.toArray)) (hx : opvs L xs = some vs) (hn : Nat.blt d n = true) (hc : ∀ w', Ext w w' → Ans P f (vs ++ cap) w' fun u _ => u = v) (h : SW P n ops (.qui K) rest ((d, v) :: L) w) :
    SW P n ops (.qui K) (⟨some d, .call ⟨.value fo, xs.toArray, ts⟩, T, pos, af, none⟩ :: rest) L w :=
  ⟨fun a ha => by
    simp only [swp, wpQuiet, Region.wanted, if_true]
    refine ⟨v, fun w' hw' => ?_, h.out _ (ha.put hn v)⟩
    unfold Oper.quietAt
    rw [run_callv (ha.eval hf), ha.evals hx]
    refine ⟨rfl, Calls.mono (hc w' hw').out ?_⟩
    rintro e w'' ⟨u, rfl, hx', rfl⟩
    exact ⟨rfl, hw'.trans hx'⟩⟩
end

/-! reslicing -/
section
variable {P : Program} {L : Env} {w : World} {d : Option Nat} {T : TypeId} {pos : String} {af : Array Edge} {g : Option (Nat × Bool)}
theorem st_sliceLo {t e : TypeId} {sz : Nat} [c : SliceTy P t e sz] {x y : Operand} {A : Option Addr} {n cap k : Nat} (hx : opv L x = some (.slice A n cap)) (hy : opv L y = some (.int .i64 (k : Int))) (hk : k ≤ n) (hc : n ≤ cap) :
    St P ⟨d, .slice t x (some y) none none, T, pos, af, g⟩ L w (.slice (if cap = k then A else A.map (·.add (k * sz))) (n - k) (cap - k)) :=
  ⟨fun _ a ha w' _ => by
    have e1 := ha.eval hx; have e2 := ha.eval hy; generalize a.eval = ρ at *
    simp [execOp, e1, e2, Instr.sliceAt, Instr.slice, Instr.sliceBounds, Instr.sliceBound, asIntOf, run_underlying c.und, run_sizeOf c.size, hk]⟩
theorem st_sliceHi {t e : TypeId} {sz : Nat} [c : SliceTy P t e sz] {x y : Operand} {A : Option Addr} {n cap k : Nat} (hx : opv L x = some (.slice A n cap)) (hy : opv L y = some (.int .i64 (k : Int))) (hk : k ≤ cap) :
    St P ⟨d, .slice t x none (some y) none, T, pos, af, g⟩ L w (.slice A k cap) :=
  ⟨fun _ a ha w' _ => by
    have e1 := ha.eval hx; have e2 := ha.eval hy; generalize a.eval = ρ at *
    have h0 : A.map (·.add 0) = A := by cases A <;> simp [add_zero]
    simp [execOp, e1, e2, Instr.sliceAt, Instr.slice, Instr.sliceBounds, Instr.sliceBound, asIntOf, run_underlying c.und, run_sizeOf c.size, hk, h0]⟩
end

/-! structs of integers, held against each other -/
def isI64 : Option TypeDesc → Bool
  | some (.int .i64) => true
  | _ => false
theorem isI64_eq {o : Option TypeDesc} (h : isI64 o = true) : o = some (.int .i64) := by
  unfold isI64 at h
  split at h
  · rfl
  · cases h
class IntsTy (P : Program) (t : TypeId) (k : outParam Nat) : Prop where
  und : P.underlying t = some (.struct (P.fieldsOf t))
  stood : P.stoodInHeld t = false
  guard : P.eqGuardType P.depth t = false
  flds : ((P.fieldsOf t).toList.map fun f => (f.name == "_", f.offset, isI64 (P.underlying f.type), (P.info? f.type).map (·.size))) = (List.range k).map fun i => (false, i, true, some 1)

theorem run_part_int {P : Program} {w : World} {t off : Nat} {xs : Array Value} {v : Value} (hu : P.underlying t = some (.int .i64)) (hs : (P.info? t).map (·.size) = some 1) (hv : xs[off]? = some v) : (part t xs off).run P w = .ok v w := by
  have hlt : off < xs.size := (Array.getElem?_eq_some_iff.1 hv).1
  have hg : xs[off] = v := (Array.getElem?_eq_some_iff.1 hv).2
  simp only [part, isAgg, Sem.run_bind, run_underlying hu, Result.andThen, pure, Sem.run]
  simp [hv]

theorem run_eqFields_ints {P : Program} {w : World} (d : Nat) (xs ys : List Int) : ∀ (fs : List Field) (j : Nat),
    (fs.map fun f => (f.name == "_", f.offset, isI64 (P.underlying f.type), (P.info? f.type).map (·.size))) = (List.range' j fs.length).map (fun i => (false, i, true, some 1)) → xs.length = j + fs.length → ys.length = j + fs.length →
    (Op.eqFields (d + 1) (xs.map (Value.int .i64)).toArray (ys.map (Value.int .i64)).toArray fs).run P w = .ok (decide (xs.drop j = ys.drop j)) w
  | [], j, _, hx, hy => by
    simp only [List.length_nil] at hx hy
    have e1 : xs.drop j = [] := by simp; omega
    have e2 : ys.drop j = [] := by simp; omega
    simp [Op.eqFields, e1, e2]
  | f :: fs, j, h, hx, hy => by
    simp only [List.map_cons, List.length_cons, List.range'_succ, List.cons.injEq, Prod.mk.injEq] at h hx hy
    obtain ⟨⟨h1, h2, h3, h4⟩, h5⟩ := h
    have ih := run_eqFields_ints (w := w) d xs ys fs (j + 1) h5 (by omega) (by omega)
    have hjx : j < xs.length := by omega
    have hjy : j < ys.length := by omega
    have hne : f.name ≠ "_" := by simpa using h1
    have p1 := run_part_int (P := P) (w := w) (off := j) (xs := (xs.map (Value.int .i64)).toArray) (isI64_eq h3) h4 (v := .int .i64 xs[j]) (by simp [hjx])
    have p2 := run_part_int (P := P) (w := w) (off := j) (xs := (ys.map (Value.int .i64)).toArray) (isI64_eq h3) h4 (v := .int .i64 ys[j]) (by simp [hjy])
    have dx := List.drop_eq_getElem_cons hjx
    have dy := List.drop_eq_getElem_cons hjy
    generalize xs.drop (j + 1) = dx' at *
    generalize ys.drop (j + 1) = dy' at *
    rw [dx, dy]
    simp only [Op.eqFields, if_pos hne, Sem.run_bind, h2, p1, p2, Result.andThen, run_equalIn_int w d f.type .i64 .i64 xs[j] ys[j] (isI64_eq h3)]
    by_cases e : xs[j] = ys[j]
    · rw [show (xs[j] == ys[j]) = true by simpa using e]
      simp only [Bool.not_true, Bool.false_eq_true, if_false, ih, e]
      congr 1
      simp
    · rw [show (xs[j] == ys[j]) = false by simpa using e]
      simp only [Bool.not_false, if_true, List.cons.injEq, e, false_and, decide_false]
      rfl

section
variable {P : Program} {L : Env} {w : World} {d : Option Nat} {T : TypeId} {pos : String} {af : Array Edge} {g : Option (Nat × Bool)}
theorem run_eqS {t k : TypeId} [c : IntsTy P t k] (xs ys : List Int) (hx : xs.length = k) (hy : ys.length = k) (w' : World) : (Op.equalIn 10000 t (.agg (xs.map (Value.int .i64)).toArray) (.agg (ys.map (Value.int .i64)).toArray)).run P w' = .ok (decide (xs = ys)) w' := by
  have hl : (P.fieldsOf t).toList.length = k := by have := congrArg List.length c.flds; simpa using this
  have h := run_eqFields_ints (P := P) (w := w') 9998 xs ys (P.fieldsOf t).toList 0 (by rw [c.flds, hl, List.range_eq_range']) (by omega) (by omega)
  rw [run_equalIn_struct w' 9999 t _ _ c.und c.stood]
  simpa using h
theorem st_eqS {t k ty : TypeId} [c : IntsTy P t k] {x y : Operand} (xs ys : List Int) (hx : opv L x = some (.agg (xs.map (Value.int .i64)).toArray)) (hy : opv L y = some (.agg (ys.map (Value.int .i64)).toArray)) (h1 : Nat.beq xs.length k = true) (h2 : Nat.beq ys.length k = true) :
    St P ⟨d, .binOp .eql t x y ty, T, pos, af, g⟩ L w (.bool (decide (xs = ys))) :=
  ⟨fun _ a ha w' _ => by
    have e := run_eqS (P := P) (t := t) xs ys (Nat.eq_of_beq_eq_true h1) (Nat.eq_of_beq_eq_true h2) w'
    have hb : (binOp .eql t (.agg (xs.map (Value.int .i64)).toArray) (.agg (ys.map (Value.int .i64)).toArray)).run P w' = .ok (.bool (decide (xs = ys))) w' := by rw [run_eql_struct, e]; rfl
    have hg := run_eqGuard_agg (P := P) w' .eql t x y (xs.map (Value.int .i64)).toArray (ys.map (Value.int .i64)).toArray c.guard
    have e1 := ha.eval hx
    have e2 := ha.eval hy
    generalize (xs.map (Value.int .i64)).toArray = X at *
    generalize (ys.map (Value.int .i64)).toArray = Y at *
    simp [execOp, e1, e2, hg, hb]⟩
theorem st_neS {t k ty : TypeId} [c : IntsTy P t k] {x y : Operand} (xs ys : List Int) (hx : opv L x = some (.agg (xs.map (Value.int .i64)).toArray)) (hy : opv L y = some (.agg (ys.map (Value.int .i64)).toArray)) (h1 : Nat.beq xs.length k = true) (h2 : Nat.beq ys.length k = true) :
    St P ⟨d, .binOp .neq t x y ty, T, pos, af, g⟩ L w (.bool (!decide (xs = ys))) :=
  ⟨fun _ a ha w' _ => by
    have e := run_eqS (P := P) (t := t) xs ys (Nat.eq_of_beq_eq_true h1) (Nat.eq_of_beq_eq_true h2) w'
    have hb : (binOp .neq t (.agg (xs.map (Value.int .i64)).toArray) (.agg (ys.map (Value.int .i64)).toArray)).run P w' = .ok (.bool (!decide (xs = ys))) w' := by rw [run_neq_struct, e]; rfl
    have hg := run_eqGuard_agg (P := P) w' .neq t x y (xs.map (Value.int .i64)).toArray (ys.map (Value.int .i64)).toArray c.guard
    have e1 := ha.eval hx
    have e2 := ha.eval hy
    generalize (xs.map (Value.int .i64)).toArray = X at *
    generalize (ys.map (Value.int .i64)).toArray = Y at *
    simp [execOp, e1, e2, hg, hb]⟩
end

/-- append onto nil: a new row -/
theorem SW.append0 {α : Type} {P : Program} {n : Nat} {ops : Array Oper} {Q : Exit → Act → World → Prop} {rest : List Oper} {L : Env} {w : World} {d : Nat} {T : TypeId} {pos : String} {af : Array Edge}
    {t e : TypeId} {z : Value} {sz bytes : Nat} {enc : α → List Value} {A X : Option Addr} {m c2 : Nat} {ys : List α} [SliceTy P t e sz] [ElemTy P e z sz bytes] [Enc enc sz] {x y : Operand}
    (hS : Sl w sz enc X m ys) (hx : opv L x = some (.slice A 0 0)) (hy : opv L y = some (.slice X m c2)) (hn : Nat.blt d n = true) (hb : m * bytes ≤ 140737488355328) (hm : m ≤ 9223372036854775807)
    (h : ∀ A' c' w', Ext w w' → Own w' w.heap.size e sz enc A' m c' ys → SW P n ops (.eff Q) rest ((d, .slice A' m c') :: L) w') :
    SW P n ops (.eff Q) (⟨some d, .call ⟨.builtin .append, #[x, y], #[t, t]⟩, T, pos, af, none⟩ :: rest) L w := by
  refine SW.appendR (Nat.zero_add m) (List.nil_append ys) (Own.nil_ w w.heap.size e sz enc A) hS (Nat.le_refl _) hx hy hn (by rw [Nat.zero_add]; exact hb) (by omega) fun A2 c2 w2 hO hg => ?_
  exact h _ _ _ (ext_grown (Ext.refl w) hg (Nat.le_refl _) (by simp [ownB])) hO

section
variable {P : Program} {n : Nat} {ops : Array Oper} {Q : Exit → Act → World → Prop} {rest : List Oper} {L : Env} {w : World} {pos : String} {af : Array Edge} {T : TypeId}
/-- a variable of one cell that is laid in a new block -/
theorem SW.box1 {d : Nat} {t : TypeId} {x : Operand} {v : Value} (hx : opv L x = some v) (h1 : v.oneCell' = true) (hn : Nat.blt d n = true)
    (h : ∀ b w', Ext w w' → w.heap.size ≤ b → Blk w' b t [v] → SW P n ops (.eff Q) rest ((d, .pointer (some ⟨b, 0, none⟩)) :: L) w') : SW P n ops (.eff Q) (⟨some d, .box t x, T, pos, af, none⟩ :: rest) L w :=
  ⟨fun a ha => by
    have hcs : v.cells = #[v] := by cases v <;> first | rfl | simp [Value.oneCell'] at h1
    simp only [swp, wpList, Region.wanted, if_true]
    refine .inl ?_
    unfold Oper.wp
    have hr : (execOp a.eval ⟨some d, .box t x, T, pos, af, none⟩).run P w = .ok (.value (.pointer (some ⟨w.heap.size, 0, none⟩))) (w.alloc (.cells #[v] t)) := by
      simp [execOp, ha.eval hx, Instr.box, newVar, newRow, newObj, Sem.run, hcs]
    rw [hr, Oper.upon_value]
    exact (h _ _ (Ext.alloc w _) (Nat.le_refl _) (Blk.new w t [v])).out _ (ha.put hn _)⟩
end
/-- the way from the base world goes on behind a change in a block of the call's own -/
theorem Ext.own {base w w' : World} {b : Nat} (h : Ext base w) (hb : base.heap.size ≤ b) (hg : w.grownBy w' (some b)) : Ext base w' := ext_grown h hg (Nat.le_refl _) (fun k e => by cases e; exact hb)
end Go.Proofs.YtfommgdbahemfaaDoor

/-
  Strings for the stepper: their order and equality, length, bytes; []byte of a string. No program in sight.
-/
set_option linter.unusedVariables false
namespace Go.Proofs.YtfommgdbahemfaaDoor
open Go.RowKit

def lessS (a b : ByteArray) : Bool := Op.bytesLess a.toList b.toList
theorem bytes_irrefl : ∀ x : List UInt8, Op.bytesLess x x = false
  | [] => rfl
  | a :: x => by simp [Op.bytesLess, bytes_irrefl x]
theorem bytes_tri : ∀ x y : List UInt8, Op.bytesLess x y = (!(Op.bytesLess y x || decide (x = y)))
  | [], [] => by simp [Op.bytesLess]
  | [], _ :: _ => by simp [Op.bytesLess]
  | _ :: _, [] => by simp [Op.bytesLess]
  | a :: x, b :: y => by
    have ih := bytes_tri x y
    simp only [Op.bytesLess, List.cons.injEq]
    rcases Nat.lt_trichotomy a.toNat b.toNat with h | h | h
    · have h1 : a < b := h
      have h2 : ¬ b < a := fun e => by have : b.toNat < a.toNat := e; omega
      have h3 : ¬ a = b := fun e => by subst e; omega
      have h4 : ¬ b = a := fun e => h3 e.symm
      simp [h1, h2, h3, h4]
    · have h3 : a = b := UInt8.toNat_inj.1 h
      subst h3
      have h1 : ¬ a < a := fun e => by have : a.toNat < a.toNat := e; omega
      simp [h1, ih]
    · have h1 : b < a := h
      have h2 : ¬ a < b := fun e => by have : a.toNat < b.toNat := e; omega
      have h3 : ¬ a = b := fun e => by subst e; omega
      have h4 : ¬ b = a := fun e => h3 e.symm
      simp [h1, h2, h3]
theorem bytes_trans : ∀ x y z : List UInt8, Op.bytesLess x y = true → Op.bytesLess y z = true → Op.bytesLess x z = true
  | _, [], _, h, _ => by simp [Op.bytesLess] at h
  | _, _ :: _, [], _, h => by simp [Op.bytesLess] at h
  | [], _ :: _, _ :: _, _, _ => by simp [Op.bytesLess]
  | a :: x, b :: y, c :: z, h, k => by
    simp only [Op.bytesLess, Bool.or_eq_true, decide_eq_true_eq, Bool.and_eq_true, beq_iff_eq] at h k ⊢
    rcases h with h | ⟨rfl, h⟩ <;> rcases k with k | ⟨rfl, k⟩
    · have h' : a.toNat < b.toNat := h
      have k' : b.toNat < c.toNat := k
      exact .inl (show a.toNat < c.toNat by omega)
    · exact .inl h
    · exact .inl k
    · exact .inr ⟨rfl, bytes_trans x y z h k⟩
theorem bytesEq (a b : ByteArray) : (a.toList == b.toList) = decide (a = b) := by
  by_cases h : a = b
  · subst h; simp
  · have : ¬ a.toList = b.toList := fun e => h (by
      have e1 := congrArg (fun l : List UInt8 => ByteArray.mk l.toArray) e
      simp only [ByteArray.toList_eq] at e1
      cases a; cases b; simpa using e1)
    simp [h, this]
theorem lessS_irrefl (a : ByteArray) : lessS a a = false := bytes_irrefl _
theorem lessS_trans {a b c : ByteArray} (h : lessS a b = true) (k : lessS b c = true) : lessS a c = true := bytes_trans _ _ _ h k
theorem lessS_tri (a b : ByteArray) : lessS a b = !(lessS b a || decide (a = b)) := by
  unfold lessS
  rw [bytes_tri]
  have : decide (a.toList = b.toList) = decide (a = b) := by rw [← bytesEq]; exact (Bool.beq_eq_decide_eq _ _).symm
  rw [this]

class StrTy (P : Program) (t : TypeId) : Prop where
  und : P.underlying t = some .string
def encU (b : UInt8) : List Value := [.int .u8 b.toNat]

section
variable {P : Program} {L : Env} {w : World} {d : Option Nat} {T : TypeId} {pos : String} {af : Array Edge} {g : Option (Nat × Bool)}
theorem st_eqStr {t ty : TypeId} {x y : Operand} {a b : ByteArray} (hx : opv L x = some (.string a)) (hy : opv L y = some (.string b)) : St P ⟨d, .binOp .eql t x y ty, T, pos, af, g⟩ L w (.bool (decide (a = b))) :=
  ⟨fun _ A hA w' _ => by
    have e1 := hA.eval hx
    have e2 := hA.eval hy
    generalize A.eval = ρ at *
    have h1 : (binOp .eql t (.string a) (.string b)).run P w' = .ok (.bool (decide (a = b))) w' := by
      have : binOp .eql t (.string a) (.string b) = Op.stringOp .eql a b := by simp [binOp]
      rw [this, ← bytesEq]
      simp [Op.stringOp, pure]
    simp [execOp, e1, e2, eqGuard, h1]⟩
theorem st_geStr {t ty : TypeId} {x y : Operand} {a b : ByteArray} (hx : opv L x = some (.string a)) (hy : opv L y = some (.string b)) : St P ⟨d, .binOp .geq t x y ty, T, pos, af, g⟩ L w (.bool (!lessS a b)) :=
  ⟨fun _ A hA w' _ => by
    have e1 := hA.eval hx
    have e2 := hA.eval hy
    generalize A.eval = ρ at *
    have h1 : (binOp .geq t (.string a) (.string b)).run P w' = .ok (.bool (!lessS a b)) w' := by
      have : binOp .geq t (.string a) (.string b) = Op.stringOp .geq a b := by simp [binOp]
      rw [this]
      simp [Op.stringOp, pure, lessS]
    simp [execOp, e1, e2, eqGuard, h1]⟩
theorem st_leStr {t ty : TypeId} {x y : Operand} {a b : ByteArray} (hx : opv L x = some (.string a)) (hy : opv L y = some (.string b)) : St P ⟨d, .binOp .leq t x y ty, T, pos, af, g⟩ L w (.bool (!lessS b a)) :=
  ⟨fun _ A hA w' _ => by
    have e1 := hA.eval hx
    have e2 := hA.eval hy
    generalize A.eval = ρ at *
    have h1 : (binOp .leq t (.string a) (.string b)).run P w' = .ok (.bool (!lessS b a)) w' := by
      have : binOp .leq t (.string a) (.string b) = Op.stringOp .leq a b := by simp [binOp]
      rw [this, lessS_tri b a]
      have e : decide (b = a) = decide (a = b) := by simp [eq_comm]
      rw [e, ← bytesEq]
      simp [Op.stringOp, pure, lessS]
    simp [execOp, e1, e2, eqGuard, h1]⟩
theorem st_ltStr {t ty : TypeId} {x y : Operand} {a b : ByteArray} (hx : opv L x = some (.string a)) (hy : opv L y = some (.string b)) : St P ⟨d, .binOp .lss t x y ty, T, pos, af, g⟩ L w (.bool (lessS a b)) :=
  ⟨fun _ A hA w' _ => by
    have e1 := hA.eval hx
    have e2 := hA.eval hy
    generalize A.eval = ρ at *
    have h1 : (binOp .lss t (.string a) (.string b)).run P w' = .ok (.bool (lessS a b)) w' := by
      have : binOp .lss t (.string a) (.string b) = Op.stringOp .lss a b := by simp [binOp]
      rw [this]
      simp [Op.stringOp, pure, lessS]
    simp [execOp, e1, e2, eqGuard, h1]⟩
theorem st_neStr' {t ty : TypeId} {x y : Operand} {a b : ByteArray} (hx : opv L x = some (.string a)) (hy : opv L y = some (.string b)) : St P ⟨d, .binOp .neq t x y ty, T, pos, af, g⟩ L w (.bool (decide (a ≠ b))) :=
  ⟨fun _ A hA w' _ => by
    have e1 := hA.eval hx
    have e2 := hA.eval hy
    generalize A.eval = ρ at *
    have h1 : (binOp .neq t (.string a) (.string b)).run P w' = .ok (.bool (decide (a ≠ b))) w' := by
      have : binOp .neq t (.string a) (.string b) = Op.stringOp .neq a b := by simp [binOp]
      rw [this]
      have e : decide (a ≠ b) = !(a.toList == b.toList) := by rw [bytesEq]; simp
      rw [e]
      simp [Op.stringOp, pure]
    simp [execOp, e1, e2, eqGuard, h1]⟩
theorem st_lenS {t : TypeId} [c : StrTy P t] {x : Operand} {s : ByteArray} (hx : opv L x = some (.string s)) :
    St P ⟨d, .call ⟨.builtin .len, #[x], #[t]⟩, T, pos, af, g⟩ L w (.int .i64 (s.size : Int)) :=
  ⟨fun _ a ha w' _ => by simp [execOp, resolve, invoke, builtin, ha.eval hx, Builtin.len_, run_underlying c.und, goInt]⟩
theorem st_idxS {t : TypeId} [c : StrTy P t] {x y : Operand} {s : ByteArray} {i : Int} (k : Nat) (hx : opv L x = some (.string s)) (hy : opv L y = some (.int .i64 i)) (hi : i = (k : Int)) (hk : k < s.size) :
    St P ⟨d, .index t x y, T, pos, af, g⟩ L w (.int .u8 (s[k]'hk).toNat) :=
  ⟨fun _ a ha w' _ => by
    subst hi
    have e1 := ha.eval hx; have e2 := ha.eval hy; generalize a.eval = ρ at *
    have := run_index_string (P := P) w' t s .i64 (k : Int) c.und
    rw [dif_pos ⟨by omega, by omega⟩] at this
    simp [execOp, e1, e2, this]⟩
end
section
variable {P : Program} {n : Nat} {ops : Array Oper} {Q : Exit → Act → World → Prop} {rest : List Oper} {L : Env} {w : World} {T : TypeId} {pos : String} {af : Array Edge}
/-- '[]byte(s)' -/
theorem SW.convBytes {d : Nat} {src dst e : TypeId} [S : StrTy P src] [D : SliceTy P dst e 1] (he : P.underlying e = some (.int .u8)) {x : Operand} {s : ByteArray} (hx : opv L x = some (.string s)) (hn : Nat.blt d n = true)
    (h : ∀ b c w', Ext w w' → w.heap.size ≤ b → Sl w' 1 encU (some ⟨b, 0, none⟩) s.size s.data.toList → SW P n ops (.eff Q) rest ((d, .slice (some ⟨b, 0, none⟩) s.size c) :: L) w') :
    SW P n ops (.eff Q) (⟨some d, .convert src dst x, T, pos, af, none⟩ :: rest) L w :=
  ⟨fun a ha => by
    simp only [swp, wpList, Region.wanted, if_true]
    refine .inl ?_
    unfold Oper.wp
    have hr := Lib.run_convert_string_bytes (P := P) w src dst e s S.und D.und he
    have : (execOp a.eval ⟨some d, .convert src dst x, T, pos, af, none⟩).run P w = .ok (.value (.slice (some ⟨w.heap.size, 0, none⟩) s.size (grownCap w s.size 0 e))) (Lib.bytesWorld w e s) := by
      simp [execOp, ha.eval hx, hr]
    rw [this, Oper.upon_value]
    have hE : Ext w (Lib.bytesWorld w e s) := ⟨rfl, rfl, rfl, by rw [Lib.bytesWorld_size]; omega, fun j hj => Lib.bytesWorld_at_old w e s j hj⟩
    refine (h _ _ _ hE (Nat.le_refl _) ⟨?_, fun _ => rfl, fun i hi j u hu => ?_⟩).out _ (ha.put hn _)
    · exact Array.length_toList
    · have hi' : i < s.size := by rw [Array.length_toList] at hi; exact hi
      have := Lib.bytesWorld_cell w e s i hi'
      match j, hu with
      | 0, hu =>
        simp only [encU, List.getElem?_cons_zero, Option.some.injEq] at hu
        rw [add_zero]
        have e2 : (((some (⟨w.heap.size, 0, none⟩ : Addr)).getD default).add (i * 1)) = ⟨w.heap.size, i, none⟩ := by
          simp only [Option.getD_some, Nat.mul_one]
          unfold Addr.add
          split <;> simp_all
        rw [e2, this, ← hu]
        have e3 : s.data.toList.getD i 0 = s.data.toList[i] := by simp [List.getD, hi']
        rw [e3]
      | j + 1, hu => simp [encU] at hu⟩
end
end Go.Proofs.YtfommgdbahemfaaDoor
