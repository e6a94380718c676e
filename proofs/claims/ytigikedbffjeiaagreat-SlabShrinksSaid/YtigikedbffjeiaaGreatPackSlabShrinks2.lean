/-
  Texts of the claim SlabShrinks, part 2: what its theorem leans on.
-/
import Derived.Test.YtigikedbffjeiaaGreatPackSlabShrinks1
import Derived.Laws.CopyRow
import Derived.Laws.StructEq
import Derived.Test.YtigikedbffjeiaaGreatChecked
import Derived.Test.YtigikedbffjeiaaGreatRows
import Derived.ProofKit
import Derived.SizedLaws
import Derived.JoinedCond
import Derived.Deep.Slices
import Derived.Deep.Fields
import Derived.Lib.SmallJoins
import Derived.OpenShut
set_option linter.unusedVariables false
set_option linter.unusedSimpArgs false
namespace Go.Proofs.YtigikedbffjeiaaGreat
open Go.RowKit
section
variable {P : Program} {L : Env} {w : World} {d : Option Nat} {T : TypeId} {pos : String} {af : Array Edge} {g : Option (Nat × Bool)}
theorem st_nilCheck {x : Operand} {ad : Addr} (hx : opv L x = some (.pointer (some ad))) : St P ⟨d, .nilCheck x, T, pos, af, g⟩ L w (.pointer (some ad)) :=
 ⟨fun _ a ha w' _ => by have e1 := ha.eval hx; generalize a.eval = ρ at *; simp [execOp, e1]⟩
theorem st_cap {t : TypeId} {e : TypeId} {sz : Nat} [c : SliceTy P t e sz] {x : Operand} {A : Option Addr} {n cap : Nat} (hx : opv L x = some (.slice A n cap)) :
  St P ⟨d, .call ⟨.builtin .cap, #[x], #[t]⟩, T, pos, af, g⟩ L w (.int .i64 cap) :=
 ⟨fun _ a ha w' _ => by simp [execOp, resolve, invoke, builtin, ha.eval hx, Builtin.cap_, run_underlying c.und, goInt]⟩
theorem st_min {t u : TypeId} {x y : Operand} {i j : Int} (hx : opv L x = some (.int .i64 i)) (hy : opv L y = some (.int .i64 j)) :
  St P ⟨d, .call ⟨.builtin .min, #[x, y], #[t, u]⟩, T, pos, af, g⟩ L w (.int .i64 (min i j)) :=
 ⟨fun _ a ha w' _ => by
  have e : (if j < i then j else i) = min i j := by split <;> omega
  simp [execOp, resolve, invoke, builtin, ha.eval hx, ha.eval hy, Builtin.min_, Builtin.min2, e]⟩
theorem st_func {f : FuncId} {cap : List Operand} {vs : List Value} (hx : opvs L cap = some vs) : St P ⟨d, .makeFunc (.func f) #[] cap.toArray, T, pos, af, g⟩ L w (.func (.func f) #[] vs.toArray) :=
 ⟨fun _ a ha w' _ => by simp [execOp, Instr.makeFunc, ← ha.evals hx]⟩
end
def setAt (cs : List Value) (off : Nat) : List Value → List Value
 | [] => cs
 | v :: r => setAt (cs.set off v) (off + 1) r
def fillL (places : List (Nat × Nat)) (cells : List Value) : List (Nat × Value) → Option (List Value)
 | [] => some cells
 | (i, v) :: rest => match places[i]? with
  | none => none
  | some (off, size) => bif Nat.beq v.cells.size size && Nat.ble (off + v.cells.size) cells.length then fillL places (setAt cells off v.cells.toList) rest else none
theorem fold_setAt : ∀ (vs : List Value) (k off : Nat) (cs : List Value), (vs.zipIdx k).foldl (fun (cs : Array Value) (p : Value × Nat) => cs.setIfInBounds (off + p.2) p.1) cs.toArray = (setAt cs (off + k) vs).toArray
 | [], _, _, _ => rfl
 | v :: r, k, off, cs => by
  simp only [List.zipIdx_cons, List.foldl_cons, setAt]
  rw [List.setIfInBounds_toArray, fold_setAt r (k + 1) off]
  rfl
theorem fill_of {places : List (Nat × Nat)} : ∀ (ps : List (Nat × Value)) (cells cs : List Value), fillL places cells ps = some cs → Instr.fill (places.toArray[·]?) cells.toArray ps = some cs.toArray
 | [], _, _, h => by simp [fillL] at h; subst h; rfl
 | (i, v) :: rest, cells, cs, h => by
  simp only [fillL] at h
  simp only [Instr.fill, List.getElem?_toArray]
  split at h
  ·cases h
  ·rename_i off size hp
   simp only [cond_eq_ite] at h
   split at h
   ·rename_i hb
    simp only [Bool.and_eq_true] at hb
    have h1 := Nat.eq_of_beq_eq_true hb.1
    have h2 : off + v.cells.size ≤ cells.length := by simpa using hb.2
    simp only [hp]
    have := fold_setAt v.cells.toList 0 off cells
    simp only [Nat.add_zero] at this
    have e2 : Array.foldl (fun (cs : Array Value) (x : Value × Nat) => cs.setIfInBounds (off + x.2) x.1) cells.toArray v.cells.zipIdx = (setAt cells off v.cells.toList).toArray := by
     rw [← this, ← Array.foldl_toList]
     simp [Array.toList_zipIdx]
    rw [if_neg (by simp; omega)]
    have e3 := fill_of (places := places) rest _ _ h
    rw [← e2] at e3
    simpa using e3
   ·cases h
class BuildTy (P : Program) (t : TypeId) (places : outParam (List (Nat × Nat))) (zc : outParam (List Value)) : Prop where
 und : ((P.underlying t).bind fun | .struct fs => some ((fs.toList.map fun f => (f.offset, (P.info? f.type).map (·.size)))) | _ => none) = some (places.map fun p => (p.1, some p.2))
 zero : ((P.info? t).bind (·.zero)).map (·.cells) = some zc.toArray
def partsV (L : Env) : List (Nat × Operand) → Option (List (Nat × Value))
 | [] => some []
 | (i, x) :: r => match opv L x, partsV L r with
  | some v, some vs => some ((i, v) :: vs)
  | _, _ => none
theorem Fit.parts {n : Nat} {a : Act} {L : Env} (h : Fit n a L) : ∀ {xs : List (Nat × Operand)} {vs : List (Nat × Value)}, partsV L xs = some vs → xs.map (fun p => (p.1, a.eval p.2)) = vs
 | [], vs, e => by simp [partsV] at e; subst e; rfl
 | (i, x) :: r, vs, e => by
  simp only [partsV] at e
  cases hx : opv L x with
  | none => simp [hx] at e
  | some v =>
   cases hr : partsV L r with
   | none => simp [hx, hr] at e
   | some us =>
    simp [hx, hr] at e
    subst e
    simp [h.eval hx, h.parts hr]
theorem run_mapM_places {P : Program} (w : World) : ∀ (fs : List Field) (places : List (Nat × Nat)), (fs.map fun f => (f.offset, (P.info? f.type).map (·.size))) = (places.map fun p => (p.1, some p.2)) →
  (fs.mapM (m := Sem) fun f => do return (f.offset, ← sizeOf f.type)).run P w = .ok places w
 | [], [], _ => by simp
 | f :: fs, p :: ps, h => by
  simp only [List.map_cons, List.cons.injEq, Prod.mk.injEq] at h
  have ih := run_mapM_places w fs ps h.2
  have hs := run_sizeOf h.1.2 w
  rw [List.mapM_cons]
  simp only [Sem.run_bind, hs, Result.andThen, pure, Sem.run]
  rw [h.1.1]
  have ih' : (fs.mapM (m := Sem) fun f => do return (f.offset, ← sizeOf f.type)).run P w = .ok ps w := ih
  simp only [pure] at ih'
  rw [ih']
 | [], _ :: _, h => by simp at h
 | _ :: _, [], h => by simp at h
section
variable {P : Program} {L : Env} {w : World} {d : Option Nat} {T : TypeId} {pos : String} {af : Array Edge} {g : Option (Nat × Bool)}
theorem st_build {t : TypeId} {places : List (Nat × Nat)} {zc cs : List Value} [c : BuildTy P t places zc] {ps : List (Nat × Operand)} {pv : List (Nat × Value)} (hp : partsV L ps = some pv) (hf : fillL places zc pv = some cs) :
  St P ⟨d, .build t ps.toArray, T, pos, af, g⟩ L w (.agg cs.toArray) :=
 ⟨fun n a ha w' _ => by
  have hz := c.zero
  cases hi : P.info? t with
  | none => simp [hi] at hz
  | some inf =>
   cases hz' : inf.zero with
   | none => simp [hi, hz'] at hz
   | some z =>
    simp [hi, hz'] at hz
    have hu := c.und
    cases hd : P.underlying t with
    | none => simp [hd] at hu
    | some D =>
     cases D <;> simp only [hd, Option.bind_some, reduceCtorEq, Option.some.injEq] at hu
     rename_i fs
     have hm := run_mapM_places (P := P) w' fs.toList places hu
     have hfill := fill_of pv zc cs hf
     have hpv := ha.parts hp
     have hmm : (fs.mapM (m := Sem) fun f => do return (f.offset, ← sizeOf f.type)).run P w' = .ok places.toArray w' := by
      rw [Array.mapM_eq_mapM_toList]
      have e : ∀ (x : Sem (List (Nat × Nat))), x.run P w' = .ok places w' → (Functor.map List.toArray x).run P w' = .ok places.toArray w' := fun x hx => by simp [hx, Result.andThen]
      exact e _ hm
     have hzv : (zeroValue t).run P w' = .ok z w' := by simp [zeroValue, typeInfo, hi, hz']
     have hb : (Instr.build t (ps.map fun p => (p.1, a.eval p.2)).toArray).run P w' = .ok (.agg cs.toArray) w' := by
      unfold Instr.build
      simp only [Sem.run_bind, hzv, Result.andThen, run_underlying hd]
      have e := hmm
      simp only [pure] at e ⊢
      rw [e]
      simp only [hz, hpv, hfill, Sem.run]
     have hx : (execOp a.eval ⟨d, .build t ps.toArray, T, pos, af, g⟩).run P w' = (do pure (Next.value (← Instr.build t (ps.map fun p => (p.1, a.eval p.2)).toArray)) : Sem Next).run P w' := by simp [execOp]
     rw [hx, Sem.run_bind, hb]
     rfl⟩
end
inductive ResIs (P : Program) (L : Env) (w : World) : List ResultVar → List Value → Prop
 | nil : ResIs P L w [] []
 | tmp {t : Nat} {v : Value} {rs : List ResultVar} {vs : List Value} : get L t = some v → ResIs P L w rs vs → ResIs P L w (.tmp t :: rs) (v :: vs)
 | cell {t ty b tb m : Nat} {cs : List Value} {rs : List ResultVar} {vs : List Value} : AggTy P ty m → get L t = some (.pointer (some ⟨b, 0, none⟩)) → Blk w b tb cs → cs.length = m → ResIs P L w rs vs → ResIs P L w (.cell t ty :: rs) (.agg cs.toArray :: vs)
theorem ResIs.run {P : Program} {L : Env} {w : World} {n : Nat} {a : Act} (ha : Fit n a L) {rs : List ResultVar} {vs : List Value} (h : ResIs P L w rs vs) :
  (rs.mapM (m := Sem) fun | .tmp t => pure (a.tmps.getD t undef) | .cell b t => do loadVar t (← asAddr (a.tmps.getD b undef))).run P w = .ok vs w := by
 induction h with
 | nil => rfl
 | @tmp t v rs vs hg hr ih =>
  rw [List.mapM_cons]
  simp only [Sem.run_bind, ha.has _ _ hg, pure, Sem.run, Result.andThen]
  simp only [pure] at ih
  rw [ih]
 | @cell t ty b tb m cs rs vs c hg hB hl hr ih =>
  rw [List.mapM_cons]
  have hload : (loadVar ty ⟨b, 0, none⟩).run P w = .ok (.agg cs.toArray) w := by
   subst hl
   simp [loadVar, run_isAgg_agg, run_sizeOf c.size, run_loadCells_list (P := P) w ⟨b, 0, none⟩ cs (fun j v hv => hB.cell hv)]
  have hasA : (asAddr (a.tmps.getD t undef)).run P w = .ok ⟨b, 0, none⟩ w := by rw [ha.has _ _ hg]; rfl
  simp only [Sem.run_bind, hasA, Result.andThen, hload]
  rw [ih]
  rfl
section
variable {P : Program} {fn : Func} {R : Ending → World → Prop} {n : Nat} {L : Env} {w : World}
theorem ResIs.results {rs : List ResultVar} {vs : List Value} (hr : fn.results = rs.toArray) (h : ResIs P L w rs vs) {a : Act} (ha : Fit n a L) :
  (results fn a.tmps).run P w = .ok (if h : vs.toArray.size = 1 then vs.toArray[0] else .tuple vs.toArray) w := by
 have h1 := h.run ha
 unfold Go.results
 rw [hr, Array.mapM_eq_mapM_toList]
 have e : ∀ (x : Sem (List Value)), x.run P w = .ok vs w → (do let vs ← (Functor.map List.toArray x : Sem (Array Value)); pure (if h : vs.size = 1 then vs[0] else .tuple vs) : Sem Value).run P w = .ok (if h : vs.toArray.size = 1 then vs.toArray[0] else .tuple vs.toArray) w := fun x hx => by
  simp [hx, Result.andThen]
 exact e _ h1
theorem Post.ret1c {t ty b tb m : Nat} {cs : List Value} [c : AggTy P ty m] (hr : fn.results = #[.cell t ty]) (hv : get L t = some (.pointer (some ⟨b, 0, none⟩))) (hB : Blk w b tb cs) (hl : Nat.beq cs.length m = true) (h : R (.returned (.agg cs.toArray)) w) : Post n (bodyPost P fn R) .ret L w :=
 ⟨fun a ha => ⟨ha.defers, _, by simpa using ResIs.results (rs := [.cell t ty]) hr (.cell c hv hB (Nat.eq_of_beq_eq_true hl) .nil) ha, h⟩⟩
theorem Post.ret2c {t u ty b tb m : Nat} {cs : List Value} {x : Value} [c : AggTy P ty m] (hr : fn.results = #[.cell t ty, .tmp u]) (hv : get L t = some (.pointer (some ⟨b, 0, none⟩))) (hx : get L u = some x) (hB : Blk w b tb cs) (hl : Nat.beq cs.length m = true) (h : R (.returned (.tuple #[.agg cs.toArray, x])) w) : Post n (bodyPost P fn R) .ret L w :=
 ⟨fun a ha => ⟨ha.defers, _, by simpa using ResIs.results (rs := [.cell t ty, .tmp u]) hr (.cell c hv hB (Nat.eq_of_beq_eq_true hl) (.tmp hx .nil)) ha, h⟩⟩
theorem Post.ret3c {t u q ty b tb m : Nat} {cs : List Value} {x y : Value} [c : AggTy P ty m] (hr : fn.results = #[.cell t ty, .tmp u, .tmp q]) (hv : get L t = some (.pointer (some ⟨b, 0, none⟩))) (hx : get L u = some x) (hy : get L q = some y) (hB : Blk w b tb cs) (hl : Nat.beq cs.length m = true) (h : R (.returned (.tuple #[.agg cs.toArray, x, y])) w) : Post n (bodyPost P fn R) .ret L w :=
 ⟨fun a ha => ⟨ha.defers, _, by simpa using ResIs.results (rs := [.cell t ty, .tmp u, .tmp q]) hr (.cell c hv hB (Nat.eq_of_beq_eq_true hl) (.tmp hx (.tmp hy .nil))) ha, h⟩⟩
end
section
variable {P : Program} {n : Nat} {ops : Array Oper} {Q : Exit → Act → World → Prop} {rest : List Oper} {L : Env} {w : World}
theorem run_callv {a : Act} {d : Option Nat} {fo : Operand} {f : FuncId} {cap : List Value} {xs : List Operand} {ts : Array TypeId} {T : TypeId} {pos : String} {af : Array Edge} {g : Option (Nat × Bool)} {w' : World}
  [hb : Body P f] (hf : a.eval fo = .func (.func f) #[] cap.toArray) : (execOp a.eval ⟨d, .call ⟨.value fo, xs.toArray, ts⟩, T, pos, af, g⟩).run P w' = .ok (.enter f (xs.map a.eval ++ cap).toArray) w' := by
 simp only [execOp, resolve, hf, Deferred.ofValue, Sem.run_bind, pure, Sem.run, Result.andThen, invoke, List.map_toArray]
 have := hb.out (xs.map a.eval ++ cap).toArray w'
 simpa using this
theorem SW.callv {d : Nat} {fo : Operand} {f : FuncId} {cap : List Value} {xs : List Operand} {vs : List Value} {ts : Array TypeId} {T : TypeId} {pos : String} {af : Array Edge} {R : Value → World → Prop}
  [Body P f] (hf : opv L fo = some (.func (.func f) #[] cap.toArray)) (hx : opvs L xs = some vs) (hn : Nat.blt d n = true) (hc : Ans P f (vs ++ cap) w R) (h : ∀ v w', Ext w w' → R v w' → SW P n ops (.eff Q) rest ((d, v) :: L) w') :
  SW P n ops (.eff Q) (⟨some d, .call ⟨.value fo, xs.toArray, ts⟩, T, pos, af, none⟩ :: rest) L w :=
 ⟨fun a ha => by
  simp only [swp, wpList, Region.wanted, if_true]
  refine .inl ?_
  unfold Oper.wp
  rw [run_callv (ha.eval hf), Oper.upon_enter, ha.evals hx]
  refine Calls.mono hc.out ?_
  rintro e w' ⟨v, rfl, hx', hv⟩
  exact (h v w' hx' hv).out _ (ha.put hn v)⟩
theorem SW.qcallv {K : Env → Prop} {d : Nat} {fo : Operand} {f : FuncId} {cap : List Value} {xs : List Operand} {vs : List Value} {ts : Array TypeId} {T : TypeId} {pos : String} {af : Array Edge} {v : Value}
  [Body P f] (hf : opv L fo = some (.func (.func f) #[] cap.toArray)) (hx : opvs L xs = some vs) (hn : Nat.blt d n = true) (hc : ∀ w', Ext w w' → Ans P f (vs ++ cap) w' fun u _ => u = v) (h : SW P n ops (.qui K) rest ((d, v) :: L) w) :
  SW P n ops (.qui K) (⟨some d, .call ⟨.value fo, xs.toArray, ts⟩, T, pos, af, none⟩ :: rest) L w :=
 ⟨fun a ha => by
  simp only [swp, wpQuiet, Region.wanted, if_true]
  refine ⟨v, fun w' hw' => ?_, h.out _ (ha.put hn v)⟩
  unfold Oper.quietAt
  rw [run_callv (ha.eval hf), ha.evals hx]
  refine ⟨rfl, Calls.mono (hc w' hw').out ?_⟩
  rintro e w'' ⟨u, rfl, hx', rfl⟩
  exact ⟨rfl, hw'.trans hx'⟩⟩
end
section
variable {P : Program} {L : Env} {w : World} {d : Option Nat} {T : TypeId} {pos : String} {af : Array Edge} {g : Option (Nat × Bool)}
theorem st_sliceLo {t e : TypeId} {sz : Nat} [c : SliceTy P t e sz] {x y : Operand} {A : Option Addr} {n cap k : Nat} (hx : opv L x = some (.slice A n cap)) (hy : opv L y = some (.int .i64 (k : Int))) (hk : k ≤ n) (hc : n ≤ cap) :
  St P ⟨d, .slice t x (some y) none none, T, pos, af, g⟩ L w (.slice (if cap = k then A else A.map (·.add (k * sz))) (n - k) (cap - k)) :=
 ⟨fun _ a ha w' _ => by
  have e1 := ha.eval hx; have e2 := ha.eval hy; generalize a.eval = ρ at *
  simp [execOp, e1, e2, Instr.sliceAt, Instr.slice, Instr.sliceBounds, Instr.sliceBound, asIntOf, run_underlying c.und, run_sizeOf c.size, hk]⟩
theorem st_sliceHi {t e : TypeId} {sz : Nat} [c : SliceTy P t e sz] {x y : Operand} {A : Option Addr} {n cap k : Nat} (hx : opv L x = some (.slice A n cap)) (hy : opv L y = some (.int .i64 (k : Int))) (hk : k ≤ cap) :
  St P ⟨d, .slice t x none (some y) none, T, pos, af, g⟩ L w (.slice A k cap) :=
 ⟨fun _ a ha w' _ => by
  have e1 := ha.eval hx; have e2 := ha.eval hy; generalize a.eval = ρ at *
  have h0 : A.map (·.add 0) = A := by cases A <;> simp [add_zero]
  simp [execOp, e1, e2, Instr.sliceAt, Instr.slice, Instr.sliceBounds, Instr.sliceBound, asIntOf, run_underlying c.und, run_sizeOf c.size, hk, h0]⟩
end
def isI64 : Option TypeDesc → Bool
 | some (.int .i64) => true
 | _ => false
theorem isI64_eq {o : Option TypeDesc} (h : isI64 o = true) : o = some (.int .i64) := by
 unfold isI64 at h
 split at h
 ·rfl
 ·cases h
class IntsTy (P : Program) (t : TypeId) (k : outParam Nat) : Prop where
 und : P.underlying t = some (.struct (P.fieldsOf t))
 stood : P.stoodInHeld t = false
 guard : P.eqGuardType P.depth t = false
 flds : ((P.fieldsOf t).toList.map fun f => (f.name == "_", f.offset, isI64 (P.underlying f.type), (P.info? f.type).map (·.size))) = (List.range k).map fun i => (false, i, true, some 1)
theorem run_part_int {P : Program} {w : World} {t off : Nat} {xs : Array Value} {v : Value} (hu : P.underlying t = some (.int .i64)) (hs : (P.info? t).map (·.size) = some 1) (hv : xs[off]? = some v) : (part t xs off).run P w = .ok v w := by
 have hlt : off < xs.size := (Array.getElem?_eq_some_iff.1 hv).1
 have hg : xs[off] = v := (Array.getElem?_eq_some_iff.1 hv).2
 simp only [part, isAgg, Sem.run_bind, run_underlying hu, Result.andThen, pure, Sem.run]
 simp [hv]
theorem run_eqFields_ints {P : Program} {w : World} (d : Nat) (xs ys : List Int) : ∀ (fs : List Field) (j : Nat),
  (fs.map fun f => (f.name == "_", f.offset, isI64 (P.underlying f.type), (P.info? f.type).map (·.size))) = (List.range' j fs.length).map (fun i => (false, i, true, some 1)) → xs.length = j + fs.length → ys.length = j + fs.length →
  (Op.eqFields (d + 1) (xs.map (Value.int .i64)).toArray (ys.map (Value.int .i64)).toArray fs).run P w = .ok (decide (xs.drop j = ys.drop j)) w
 | [], j, _, hx, hy => by
  simp only [List.length_nil] at hx hy
  have e1 : xs.drop j = [] := by simp; omega
  have e2 : ys.drop j = [] := by simp; omega
  simp [Op.eqFields, e1, e2]
 | f :: fs, j, h, hx, hy => by
  simp only [List.map_cons, List.length_cons, List.range'_succ, List.cons.injEq, Prod.mk.injEq] at h hx hy
  obtain ⟨⟨h1, h2, h3, h4⟩, h5⟩ := h
  have ih := run_eqFields_ints (w := w) d xs ys fs (j + 1) h5 (by omega) (by omega)
  have hjx : j < xs.length := by omega
  have hjy : j < ys.length := by omega
  have hne : f.name ≠ "_" := by simpa using h1
  have p1 := run_part_int (P := P) (w := w) (off := j) (xs := (xs.map (Value.int .i64)).toArray) (isI64_eq h3) h4 (v := .int .i64 xs[j]) (by simp [hjx])
  have p2 := run_part_int (P := P) (w := w) (off := j) (xs := (ys.map (Value.int .i64)).toArray) (isI64_eq h3) h4 (v := .int .i64 ys[j]) (by simp [hjy])
  have dx := List.drop_eq_getElem_cons hjx
  have dy := List.drop_eq_getElem_cons hjy
  generalize xs.drop (j + 1) = dx' at *
  generalize ys.drop (j + 1) = dy' at *
  rw [dx, dy]
  simp only [Op.eqFields, if_pos hne, Sem.run_bind, h2, p1, p2, Result.andThen, run_equalIn_int w d f.type .i64 .i64 xs[j] ys[j] (isI64_eq h3)]
  by_cases e : xs[j] = ys[j]
  ·rw [show (xs[j] == ys[j]) = true by simpa using e]
   simp only [Bool.not_true, Bool.false_eq_true, if_false, ih, e]
   congr 1
   simp
  ·rw [show (xs[j] == ys[j]) = false by simpa using e]
   simp only [Bool.not_false, if_true, List.cons.injEq, e, false_and, decide_false]
   rfl
section
variable {P : Program} {L : Env} {w : World} {d : Option Nat} {T : TypeId} {pos : String} {af : Array Edge} {g : Option (Nat × Bool)}
theorem run_eqS {t k : TypeId} [c : IntsTy P t k] (xs ys : List Int) (hx : xs.length = k) (hy : ys.length = k) (w' : World) : (Op.equalIn 10000 t (.agg (xs.map (Value.int .i64)).toArray) (.agg (ys.map (Value.int .i64)).toArray)).run P w' = .ok (decide (xs = ys)) w' := by
 have hl : (P.fieldsOf t).toList.length = k := by have := congrArg List.length c.flds; simpa using this
 have h := run_eqFields_ints (P := P) (w := w') 9998 xs ys (P.fieldsOf t).toList 0 (by rw [c.flds, hl, List.range_eq_range']) (by omega) (by omega)
 rw [run_equalIn_struct w' 9999 t _ _ c.und c.stood]
 simpa using h
theorem st_neS {t k ty : TypeId} [c : IntsTy P t k] {x y : Operand} (xs ys : List Int) (hx : opv L x = some (.agg (xs.map (Value.int .i64)).toArray)) (hy : opv L y = some (.agg (ys.map (Value.int .i64)).toArray)) (h1 : Nat.beq xs.length k = true) (h2 : Nat.beq ys.length k = true) :
  St P ⟨d, .binOp .neq t x y ty, T, pos, af, g⟩ L w (.bool (!decide (xs = ys))) :=
 ⟨fun _ a ha w' _ => by
  have e := run_eqS (P := P) (t := t) xs ys (Nat.eq_of_beq_eq_true h1) (Nat.eq_of_beq_eq_true h2) w'
  have hb : (binOp .neq t (.agg (xs.map (Value.int .i64)).toArray) (.agg (ys.map (Value.int .i64)).toArray)).run P w' = .ok (.bool (!decide (xs = ys))) w' := by rw [run_neq_struct, e]; rfl
  have hg := run_eqGuard_agg (P := P) w' .neq t x y (xs.map (Value.int .i64)).toArray (ys.map (Value.int .i64)).toArray c.guard
  have e1 := ha.eval hx
  have e2 := ha.eval hy
  generalize (xs.map (Value.int .i64)).toArray = X at *
  generalize (ys.map (Value.int .i64)).toArray = Y at *
  simp [execOp, e1, e2, hg, hb]⟩
end
section
variable {P : Program} {n : Nat} {ops : Array Oper} {Q : Exit → Act → World → Prop} {rest : List Oper} {L : Env} {w : World} {pos : String} {af : Array Edge} {T : TypeId}
theorem SW.box1 {d : Nat} {t : TypeId} {x : Operand} {v : Value} (hx : opv L x = some v) (h1 : v.oneCell' = true) (hn : Nat.blt d n = true)
  (h : ∀ b w', Ext w w' → w.heap.size ≤ b → Blk w' b t [v] → SW P n ops (.eff Q) rest ((d, .pointer (some ⟨b, 0, none⟩)) :: L) w') : SW P n ops (.eff Q) (⟨some d, .box t x, T, pos, af, none⟩ :: rest) L w :=
 ⟨fun a ha => by
  have hcs : v.cells = #[v] := by cases v <;> first | rfl | simp [Value.oneCell'] at h1
  simp only [swp, wpList, Region.wanted, if_true]
  refine .inl ?_
  unfold Oper.wp
  have hr : (execOp a.eval ⟨some d, .box t x, T, pos, af, none⟩).run P w = .ok (.value (.pointer (some ⟨w.heap.size, 0, none⟩))) (w.alloc (.cells #[v] t)) := by
   simp [execOp, ha.eval hx, Instr.box, newVar, newRow, newObj, Sem.run, hcs]
  rw [hr, Oper.upon_value]
  exact (h _ _ (Ext.alloc w _) (Nat.le_refl _) (Blk.new w t [v])).out _ (ha.put hn _)⟩
end
theorem Ext.own {base w w' : World} {b : Nat} (h : Ext base w) (hb : base.heap.size ≤ b) (hg : w.grownBy w' (some b)) : Ext base w' := ext_grown h hg (Nat.le_refl _) (fun k e => by cases e; exact hb)
instance : OneTy Tryz.prog 3 := ⟨by kernel_rfl, by kernel_rfl⟩
instance : ElemTy Tryz.prog 3 (.int .i64 0) 1 8 := ⟨by kernel_rfl, by kernel_rfl, by decide⟩
instance : OneTy Tryz.prog 4 := ⟨by kernel_rfl, by kernel_rfl⟩
instance : ElemTy Tryz.prog 4 (.bool false) 1 1 := ⟨by kernel_rfl, by kernel_rfl, by decide⟩
instance : OneTy Tryz.prog 5 := ⟨by kernel_rfl, by kernel_rfl⟩
instance : OneTy Tryz.prog 9 := ⟨by kernel_rfl, by kernel_rfl⟩
instance : ElemTy Tryz.prog 9 (.string ByteArray.empty) 1 16 := ⟨by kernel_rfl, by kernel_rfl, by decide⟩
instance : OneTy Tryz.prog 22 := ⟨by kernel_rfl, by kernel_rfl⟩
instance : SliceTy Tryz.prog 22 3 1 := ⟨by kernel_rfl, by kernel_rfl⟩
instance : OneTy Tryz.prog 23 := ⟨by kernel_rfl, by kernel_rfl⟩
instance : SliceTy Tryz.prog 23 72 4 := ⟨by kernel_rfl, by kernel_rfl⟩
instance : OneTy Tryz.prog 24 := ⟨by kernel_rfl, by kernel_rfl⟩
instance : SliceTy Tryz.prog 24 75 4 := ⟨by kernel_rfl, by kernel_rfl⟩
instance : OneTy Tryz.prog 25 := ⟨by kernel_rfl, by kernel_rfl⟩
instance : ElemTy Tryz.prog 25 (.slice none 0 0) 1 24 := ⟨by kernel_rfl, by kernel_rfl, by decide⟩
instance : SliceTy Tryz.prog 25 94 3 := ⟨by kernel_rfl, by kernel_rfl⟩
instance : ElemTy Tryz.prog 27 (.agg #[.slice none 0 0, .slice none 0 0, .int .i64 0, .slice none 0 0, .slice none 0 0]) 5 104 := ⟨by kernel_rfl, by kernel_rfl, by decide⟩
instance : AggTy Tryz.prog 27 5 := ⟨by kernel_rfl, by kernel_rfl⟩
instance : BuildTy Tryz.prog 27 [(0, 1), (1, 1), (2, 1), (3, 1), (4, 1)] [.slice none 0 0, .slice none 0 0, .int .i64 0, .slice none 0 0, .slice none 0 0] := ⟨by kernel_rfl, by kernel_rfl⟩
instance : FieldOf Tryz.prog 27 0 0 23 := ⟨by kernel_rfl, by kernel_rfl⟩
instance : FieldOf Tryz.prog 27 1 1 22 := ⟨by kernel_rfl, by kernel_rfl⟩
instance : FieldOf Tryz.prog 27 2 2 3 := ⟨by kernel_rfl, by kernel_rfl⟩
instance : FieldOf Tryz.prog 27 3 3 24 := ⟨by kernel_rfl, by kernel_rfl⟩
instance : FieldOf Tryz.prog 27 4 4 25 := ⟨by kernel_rfl, by kernel_rfl⟩
instance : OneTy Tryz.prog 28 := ⟨by kernel_rfl, by kernel_rfl⟩
instance : SliceTy Tryz.prog 28 44 6 := ⟨by kernel_rfl, by kernel_rfl⟩
instance : ElemTy Tryz.prog 30 (.agg #[.slice none 0 0, .slice none 0 0, .slice none 0 0, .int .i64 0, .slice none 0 0, .slice none 0 0, .slice none 0 0]) 7 152 := ⟨by kernel_rfl, by kernel_rfl, by decide⟩
instance : AggTy Tryz.prog 30 7 := ⟨by kernel_rfl, by kernel_rfl⟩
instance : BuildTy Tryz.prog 30 [(0, 1), (1, 5), (6, 1)] [.slice none 0 0, .slice none 0 0, .slice none 0 0, .int .i64 0, .slice none 0 0, .slice none 0 0, .slice none 0 0] := ⟨by kernel_rfl, by kernel_rfl⟩
instance : FieldOf Tryz.prog 30 0 0 22 := ⟨by kernel_rfl, by kernel_rfl⟩
instance : FieldOf Tryz.prog 30 1 1 27 := ⟨by kernel_rfl, by kernel_rfl⟩
instance : FieldOf Tryz.prog 30 2 6 28 := ⟨by kernel_rfl, by kernel_rfl⟩
instance : OneTy Tryz.prog 41 := ⟨by kernel_rfl, by kernel_rfl⟩
instance : SliceTy Tryz.prog 41 9 1 := ⟨by kernel_rfl, by kernel_rfl⟩
instance : OneTy Tryz.prog 42 := ⟨by kernel_rfl, by kernel_rfl⟩
instance : SliceTy Tryz.prog 42 46 3 := ⟨by kernel_rfl, by kernel_rfl⟩
instance : ElemTy Tryz.prog 44 (.agg #[.slice none 0 0, .int .i64 0, .int .i64 0, .int .i64 0, .slice none 0 0, .slice none 0 0]) 6 96 := ⟨by kernel_rfl, by kernel_rfl, by decide⟩
instance : AggTy Tryz.prog 44 6 := ⟨by kernel_rfl, by kernel_rfl⟩
instance : FieldOf Tryz.prog 44 0 0 41 := ⟨by kernel_rfl, by kernel_rfl⟩
instance : FieldOf Tryz.prog 44 1 1 3 := ⟨by kernel_rfl, by kernel_rfl⟩
instance : FieldOf Tryz.prog 44 2 2 3 := ⟨by kernel_rfl, by kernel_rfl⟩
instance : FieldOf Tryz.prog 44 3 3 3 := ⟨by kernel_rfl, by kernel_rfl⟩
instance : FieldOf Tryz.prog 44 4 4 42 := ⟨by kernel_rfl, by kernel_rfl⟩
instance : FieldOf Tryz.prog 44 5 5 22 := ⟨by kernel_rfl, by kernel_rfl⟩
instance : ElemTy Tryz.prog 46 (.agg #[.int .i64 0, .int .i64 0, .int .i64 0]) 3 24 := ⟨by kernel_rfl, by kernel_rfl, by decide⟩
instance : AggTy Tryz.prog 46 3 := ⟨by kernel_rfl, by kernel_rfl⟩
instance : IntsTy Tryz.prog 46 3 := ⟨by kernel_rfl, by kernel_rfl, by kernel_rfl, by kernel_rfl⟩
instance : FieldOf Tryz.prog 46 0 0 3 := ⟨by kernel_rfl, by kernel_rfl⟩
instance : FieldOf Tryz.prog 46 1 1 3 := ⟨by kernel_rfl, by kernel_rfl⟩
instance : FieldOf Tryz.prog 46 2 2 3 := ⟨by kernel_rfl, by kernel_rfl⟩
instance : ElemTy Tryz.prog 72 (.agg #[.int .i64 0, .int .i64 0, .slice none 0 0, .slice none 0 0]) 4 64 := ⟨by kernel_rfl, by kernel_rfl, by decide⟩
instance : AggTy Tryz.prog 72 4 := ⟨by kernel_rfl, by kernel_rfl⟩
instance : BuildTy Tryz.prog 72 [(0, 1), (1, 1), (2, 1), (3, 1)] [.int .i64 0, .int .i64 0, .slice none 0 0, .slice none 0 0] := ⟨by kernel_rfl, by kernel_rfl⟩
instance : FieldOf Tryz.prog 72 0 0 3 := ⟨by kernel_rfl, by kernel_rfl⟩
instance : FieldOf Tryz.prog 72 1 1 3 := ⟨by kernel_rfl, by kernel_rfl⟩
instance : FieldOf Tryz.prog 72 2 2 25 := ⟨by kernel_rfl, by kernel_rfl⟩
instance : FieldOf Tryz.prog 72 3 3 22 := ⟨by kernel_rfl, by kernel_rfl⟩
instance : ElemTy Tryz.prog 75 (.agg #[.int .i64 0, .int .i64 0, .int .i64 0, .slice none 0 0]) 4 48 := ⟨by kernel_rfl, by kernel_rfl, by decide⟩
instance : AggTy Tryz.prog 75 4 := ⟨by kernel_rfl, by kernel_rfl⟩
instance : BuildTy Tryz.prog 75 [(0, 1), (1, 1), (2, 1), (3, 1)] [.int .i64 0, .int .i64 0, .int .i64 0, .slice none 0 0] := ⟨by kernel_rfl, by kernel_rfl⟩
instance : FieldOf Tryz.prog 75 0 0 3 := ⟨by kernel_rfl, by kernel_rfl⟩
instance : FieldOf Tryz.prog 75 1 1 3 := ⟨by kernel_rfl, by kernel_rfl⟩
instance : FieldOf Tryz.prog 75 2 2 3 := ⟨by kernel_rfl, by kernel_rfl⟩
instance : FieldOf Tryz.prog 75 3 3 22 := ⟨by kernel_rfl, by kernel_rfl⟩
instance : ElemTy Tryz.prog 94 (.agg #[.int .i64 0, .int .i64 0, .int .i64 0]) 3 24 := ⟨by kernel_rfl, by kernel_rfl, by decide⟩
instance : AggTy Tryz.prog 94 3 := ⟨by kernel_rfl, by kernel_rfl⟩
instance : BuildTy Tryz.prog 94 [(0, 1), (1, 1), (2, 1)] [.int .i64 0, .int .i64 0, .int .i64 0] := ⟨by kernel_rfl, by kernel_rfl⟩
instance : IntsTy Tryz.prog 94 3 := ⟨by kernel_rfl, by kernel_rfl, by kernel_rfl, by kernel_rfl⟩
instance : FieldOf Tryz.prog 94 0 0 3 := ⟨by kernel_rfl, by kernel_rfl⟩
instance : FieldOf Tryz.prog 94 1 1 3 := ⟨by kernel_rfl, by kernel_rfl⟩
instance : FieldOf Tryz.prog 94 2 2 3 := ⟨by kernel_rfl, by kernel_rfl⟩
instance : ArrTy Tryz.prog 127 256 4 1 := ⟨by kernel_rfl, by kernel_rfl⟩
instance : BuildTy Tryz.prog 129 [(0, 256), (256, 1)] [.bool false, .bool false, .bool false, .bool false, .bool false, .bool false, .bool false, .bool false, .bool false, .bool false, .bool false, .bool false, .bool false, .bool false, .bool false, .bool false, .bool false, .bool false, .bool false, .bool false, .bool false, .bool false, .bool false, .bool false, .bool false, .bool false, .bool false, .bool false, .bool false, .bool false, .bool false, .bool false, .bool false, .bool false, .bool false, .bool false, .bool false, .bool false, .bool false, .bool false, .bool false, .bool false, .bool false, .bool false, .bool false, .bool false, .bool false, .bool false, .bool false, .bool false, .bool false, .bool false, .bool false, .bool false, .bool false, .bool false, .bool false, .bool false, .bool false, .bool false, .bool false, .bool false, .bool false, .bool false, .bool false, .bool false, .bool false, .bool false, .bool false, .bool false, .bool false, .bool false, .bool false, .bool false, .bool false, .bool false, .bool false, .bool false, .bool false, .bool false, .bool false, .bool false, .bool false, .bool false, .bool false, .bool false, .bool false, .bool false, .bool false, .bool false, .bool false, .bool false, .bool false, .bool false, .bool false, .bool false, .bool false, .bool false, .bool false, .bool false, .bool false, .bool false, .bool false, .bool false, .bool false, .bool false, .bool false, .bool false, .bool false, .bool false, .bool false, .bool false, .bool false, .bool false, .bool false, .bool false, .bool false, .bool false, .bool false, .bool false, .bool false, .bool false, .bool false, .bool false, .bool false, .bool false, .bool false, .bool false, .bool false, .bool false, .bool false, .bool false, .bool false, .bool false, .bool false, .bool false, .bool false, .bool false, .bool false, .bool false, .bool false, .bool false, .bool false, .bool false, .bool false, .bool false, .bool false, .bool false, .bool false, .bool false, .bool false, .bool false, .bool false, .bool false, .bool false, .bool false, .bool false, .bool false, .bool false, .bool false, .bool false, .bool false, .bool false, .bool false, .bool false, .bool false, .bool false, .bool false, .bool false, .bool false, .bool false, .bool false, .bool false, .bool false, .bool false, .bool false, .bool false, .bool false, .bool false, .bool false, .bool false, .bool false, .bool false, .bool false, .bool false, .bool false, .bool false, .bool false, .bool false, .bool false, .bool false, .bool false, .bool false, .bool false, .bool false, .bool false, .bool false, .bool false, .bool false, .bool false, .bool false, .bool false, .bool false, .bool false, .bool false, .bool false, .bool false, .bool false, .bool false, .bool false, .bool false, .bool false, .bool false, .bool false, .bool false, .bool false, .bool false, .bool false, .bool false, .bool false, .bool false, .bool false, .bool false, .bool false, .bool false, .bool false, .bool false, .bool false, .bool false, .bool false, .bool false, .bool false, .bool false, .bool false, .bool false, .bool false, .bool false, .bool false, .bool false, .bool false, .bool false, .bool false, .bool false, .bool false, .bool false, .bool false, .bool false, .bool false, .bool false, .bool false, .bool false, .bool false, .bool false, .bool false, .bool false, .bool false, .bool false] := ⟨by kernel_rfl, by kernel_rfl⟩
instance : FieldOf Tryz.prog 129 0 0 127 := ⟨by kernel_rfl, by kernel_rfl⟩
instance : FieldOf Tryz.prog 129 1 256 4 := ⟨by kernel_rfl, by kernel_rfl⟩
instance : SliceTy Tryz.prog 137 5 1 := ⟨by kernel_rfl, by kernel_rfl⟩
instance : SliceTy Tryz.prog 150 4 1 := ⟨by kernel_rfl, by kernel_rfl⟩
instance : Body Tryz.prog 6 := body_of Tryz.func6 (by kernel_rfl) (by kernel_rfl)
instance : Body Tryz.prog 7 := body_of Tryz.func7 (by kernel_rfl) (by kernel_rfl)
instance : Body Tryz.prog 8 := body_of Tryz.func8 (by kernel_rfl) (by kernel_rfl)
instance : Body Tryz.prog 9 := body_of Tryz.func9 (by kernel_rfl) (by kernel_rfl)
instance : Body Tryz.prog 14 := body_of Tryz.func14 (by kernel_rfl) (by kernel_rfl)
instance : Body Tryz.prog 15 := body_of Tryz.func15 (by kernel_rfl) (by kernel_rfl)
instance : Body Tryz.prog 16 := body_of Tryz.func16 (by kernel_rfl) (by kernel_rfl)
instance : Body Tryz.prog 17 := body_of Tryz.func17 (by kernel_rfl) (by kernel_rfl)
instance : Body Tryz.prog 18 := body_of Tryz.func18 (by kernel_rfl) (by kernel_rfl)
instance : Body Tryz.prog 19 := body_of Tryz.func19 (by kernel_rfl) (by kernel_rfl)
instance : Body Tryz.prog 20 := body_of Tryz.func20 (by kernel_rfl) (by kernel_rfl)
instance : Body Tryz.prog 21 := body_of Tryz.func21 (by kernel_rfl) (by kernel_rfl)
instance : Body Tryz.prog 22 := body_of Tryz.func22 (by kernel_rfl) (by kernel_rfl)
instance : Body Tryz.prog 25 := body_of Tryz.func25 (by kernel_rfl) (by kernel_rfl)
instance : Body Tryz.prog 28 := body_of Tryz.func28 (by kernel_rfl) (by kernel_rfl)
instance : Body Tryz.prog 34 := body_of Tryz.func34 (by kernel_rfl) (by kernel_rfl)
instance : Body Tryz.prog 35 := body_of Tryz.func35 (by kernel_rfl) (by kernel_rfl)
instance : Body Tryz.prog 36 := body_of Tryz.func36 (by kernel_rfl) (by kernel_rfl)
instance : Body Tryz.prog 37 := body_of Tryz.func37 (by kernel_rfl) (by kernel_rfl)
instance : Body Tryz.prog 38 := body_of Tryz.func38 (by kernel_rfl) (by kernel_rfl)
instance : Body Tryz.prog 39 := body_of Tryz.func39 (by kernel_rfl) (by kernel_rfl)
instance : Body Tryz.prog 40 := body_of Tryz.func40 (by kernel_rfl) (by kernel_rfl)
instance : Body Tryz.prog 41 := body_of Tryz.func41 (by kernel_rfl) (by kernel_rfl)
instance : Body Tryz.prog 42 := body_of Tryz.func42 (by kernel_rfl) (by kernel_rfl)
instance : Body Tryz.prog 43 := body_of Tryz.func43 (by kernel_rfl) (by kernel_rfl)
instance : Body Tryz.prog 44 := body_of Tryz.func44 (by kernel_rfl) (by kernel_rfl)
instance : Body Tryz.prog 45 := body_of Tryz.func45 (by kernel_rfl) (by kernel_rfl)
instance : Body Tryz.prog 46 := body_of Tryz.func46 (by kernel_rfl) (by kernel_rfl)
instance : Body Tryz.prog 47 := body_of Tryz.func47 (by kernel_rfl) (by kernel_rfl)
instance : Body Tryz.prog 48 := body_of Tryz.func48 (by kernel_rfl) (by kernel_rfl)
instance : Body Tryz.prog 49 := body_of Tryz.func49 (by kernel_rfl) (by kernel_rfl)
instance : Body Tryz.prog 50 := body_of Tryz.func50 (by kernel_rfl) (by kernel_rfl)
instance : Body Tryz.prog 53 := body_of Tryz.func53 (by kernel_rfl) (by kernel_rfl)
instance : Body Tryz.prog 54 := body_of Tryz.func54 (by kernel_rfl) (by kernel_rfl)
instance : Body Tryz.prog 55 := body_of Tryz.func55 (by kernel_rfl) (by kernel_rfl)
instance : Body Tryz.prog 56 := body_of Tryz.func56 (by kernel_rfl) (by kernel_rfl)
instance : Body Tryz.prog 57 := body_of Tryz.func57 (by kernel_rfl) (by kernel_rfl)
instance : Body Tryz.prog 58 := body_of Tryz.func58 (by kernel_rfl) (by kernel_rfl)
instance : Body Tryz.prog 59 := body_of Tryz.func59 (by kernel_rfl) (by kernel_rfl)
instance : Body Tryz.prog 60 := body_of Tryz.func60 (by kernel_rfl) (by kernel_rfl)
instance : Body Tryz.prog 61 := body_of Tryz.func61 (by kernel_rfl) (by kernel_rfl)
instance : Body Tryz.prog 62 := body_of Tryz.func62 (by kernel_rfl) (by kernel_rfl)
instance : Body Tryz.prog 63 := body_of Tryz.func63 (by kernel_rfl) (by kernel_rfl)
instance : Body Tryz.prog 64 := body_of Tryz.func64 (by kernel_rfl) (by kernel_rfl)
instance : Body Tryz.prog 65 := body_of Tryz.func65 (by kernel_rfl) (by kernel_rfl)
instance : Body Tryz.prog 66 := body_of Tryz.func66 (by kernel_rfl) (by kernel_rfl)
instance : Body Tryz.prog 67 := body_of Tryz.func67 (by kernel_rfl) (by kernel_rfl)
instance : Body Tryz.prog 68 := body_of Tryz.func68 (by kernel_rfl) (by kernel_rfl)
instance : Body Tryz.prog 69 := body_of Tryz.func69 (by kernel_rfl) (by kernel_rfl)
instance : Body Tryz.prog 70 := body_of Tryz.func70 (by kernel_rfl) (by kernel_rfl)
instance : Body Tryz.prog 71 := body_of Tryz.func71 (by kernel_rfl) (by kernel_rfl)
instance : Body Tryz.prog 72 := body_of Tryz.func72 (by kernel_rfl) (by kernel_rfl)
instance : Body Tryz.prog 73 := body_of Tryz.func73 (by kernel_rfl) (by kernel_rfl)
instance : Body Tryz.prog 74 := body_of Tryz.func74 (by kernel_rfl) (by kernel_rfl)
instance : Body Tryz.prog 75 := body_of Tryz.func75 (by kernel_rfl) (by kernel_rfl)
instance : Body Tryz.prog 76 := body_of Tryz.func76 (by kernel_rfl) (by kernel_rfl)
instance : Body Tryz.prog 77 := body_of Tryz.func77 (by kernel_rfl) (by kernel_rfl)
instance : Body Tryz.prog 78 := body_of Tryz.func78 (by kernel_rfl) (by kernel_rfl)
instance : Body Tryz.prog 79 := body_of Tryz.func79 (by kernel_rfl) (by kernel_rfl)
instance : Body Tryz.prog 80 := body_of Tryz.func80 (by kernel_rfl) (by kernel_rfl)
instance : Body Tryz.prog 81 := body_of Tryz.func81 (by kernel_rfl) (by kernel_rfl)
instance : Body Tryz.prog 82 := body_of Tryz.func82 (by kernel_rfl) (by kernel_rfl)
instance : Body Tryz.prog 83 := body_of Tryz.func83 (by kernel_rfl) (by kernel_rfl)
instance : Body Tryz.prog 84 := body_of Tryz.func84 (by kernel_rfl) (by kernel_rfl)
instance : Body Tryz.prog 85 := body_of Tryz.func85 (by kernel_rfl) (by kernel_rfl)
instance : Body Tryz.prog 87 := body_of Tryz.func87 (by kernel_rfl) (by kernel_rfl)
instance : Body Tryz.prog 88 := body_of Tryz.func88 (by kernel_rfl) (by kernel_rfl)
instance : Body Tryz.prog 89 := body_of Tryz.func89 (by kernel_rfl) (by kernel_rfl)
instance : Body Tryz.prog 90 := body_of Tryz.func90 (by kernel_rfl) (by kernel_rfl)
instance : Body Tryz.prog 91 := body_of Tryz.func91 (by kernel_rfl) (by kernel_rfl)
instance : Body Tryz.prog 92 := body_of Tryz.func92 (by kernel_rfl) (by kernel_rfl)
instance : Body Tryz.prog 93 := body_of Tryz.func93 (by kernel_rfl) (by kernel_rfl)
instance : Body Tryz.prog 94 := body_of Tryz.func94 (by kernel_rfl) (by kernel_rfl)
instance : Body Tryz.prog 95 := body_of Tryz.func95 (by kernel_rfl) (by kernel_rfl)
instance : Body Tryz.prog 96 := body_of Tryz.func96 (by kernel_rfl) (by kernel_rfl)
instance : Body Tryz.prog 97 := body_of Tryz.func97 (by kernel_rfl) (by kernel_rfl)
instance : Body Tryz.prog 98 := body_of Tryz.func98 (by kernel_rfl) (by kernel_rfl)
instance : Body Tryz.prog 99 := body_of Tryz.func99 (by kernel_rfl) (by kernel_rfl)
instance : Body Tryz.prog 100 := body_of Tryz.func100 (by kernel_rfl) (by kernel_rfl)
instance : Body Tryz.prog 101 := body_of Tryz.func101 (by kernel_rfl) (by kernel_rfl)
instance : Body Tryz.prog 102 := body_of Tryz.func102 (by kernel_rfl) (by kernel_rfl)
instance : Body Tryz.prog 103 := body_of Tryz.func103 (by kernel_rfl) (by kernel_rfl)
instance : Body Tryz.prog 104 := body_of Tryz.func104 (by kernel_rfl) (by kernel_rfl)
instance : Body Tryz.prog 105 := body_of Tryz.func105 (by kernel_rfl) (by kernel_rfl)
instance : Body Tryz.prog 106 := body_of Tryz.func106 (by kernel_rfl) (by kernel_rfl)
instance : Body Tryz.prog 107 := body_of Tryz.func107 (by kernel_rfl) (by kernel_rfl)
instance : Body Tryz.prog 108 := body_of Tryz.func108 (by kernel_rfl) (by kernel_rfl)
instance : Body Tryz.prog 109 := body_of Tryz.func109 (by kernel_rfl) (by kernel_rfl)
instance : Body Tryz.prog 110 := body_of Tryz.func110 (by kernel_rfl) (by kernel_rfl)
instance : Body Tryz.prog 111 := body_of Tryz.func111 (by kernel_rfl) (by kernel_rfl)
instance : Body Tryz.prog 112 := body_of Tryz.func112 (by kernel_rfl) (by kernel_rfl)
instance : Body Tryz.prog 113 := body_of Tryz.func113 (by kernel_rfl) (by kernel_rfl)
instance : Body Tryz.prog 114 := body_of Tryz.func114 (by kernel_rfl) (by kernel_rfl)
instance : Body Tryz.prog 115 := body_of Tryz.func115 (by kernel_rfl) (by kernel_rfl)
instance : Body Tryz.prog 116 := body_of Tryz.func116 (by kernel_rfl) (by kernel_rfl)
instance : Body Tryz.prog 117 := body_of Tryz.func117 (by kernel_rfl) (by kernel_rfl)
instance : Body Tryz.prog 118 := body_of Tryz.func118 (by kernel_rfl) (by kernel_rfl)
instance : Body Tryz.prog 119 := body_of Tryz.func119 (by kernel_rfl) (by kernel_rfl)
instance : Body Tryz.prog 120 := body_of Tryz.func120 (by kernel_rfl) (by kernel_rfl)
instance : Body Tryz.prog 121 := body_of Tryz.func121 (by kernel_rfl) (by kernel_rfl)
instance : Body Tryz.prog 122 := body_of Tryz.func122 (by kernel_rfl) (by kernel_rfl)
instance : Body Tryz.prog 123 := body_of Tryz.func123 (by kernel_rfl) (by kernel_rfl)
instance : Body Tryz.prog 124 := body_of Tryz.func124 (by kernel_rfl) (by kernel_rfl)
instance : Body Tryz.prog 125 := body_of Tryz.func125 (by kernel_rfl) (by kernel_rfl)
instance : Body Tryz.prog 126 := body_of Tryz.func126 (by kernel_rfl) (by kernel_rfl)
instance : Body Tryz.prog 127 := body_of Tryz.func127 (by kernel_rfl) (by kernel_rfl)
instance : Body Tryz.prog 130 := body_of Tryz.func130 (by kernel_rfl) (by kernel_rfl)
instance : Body Tryz.prog 131 := body_of Tryz.func131 (by kernel_rfl) (by kernel_rfl)
instance : Body Tryz.prog 132 := body_of Tryz.func132 (by kernel_rfl) (by kernel_rfl)
theorem mixed : Tryz.prog.follows .mixedOrders = true := by kernel_rfl
open Go.ChangeShapes Go.WideShapes Go.ChangeAt Go.RowKit Go.Deep Go.Joins
theorem own : ownKnob Tryz.prog.godebug = none := by kernel_rfl
theorem laidOut : laidOutB Tryz.prog = true := by kernel_rfl
theorem trodAll_stays {H : Type} {enc : TypeId × Value → H} {P : Program} (hl : laidOutB P = true) {W W' : World} (hb : Below W.heap.size W W') :
  ∀ (ts : List TypeId) (vs : List Value) (ds : List (DataW H)) (ps : List MemPlace), (∀ t ∈ ts, P.readableRec t = true ∧ t < P.types.size) →
   DataW.TrodAll enc P W 0 (fun _ => true) true ts vs ds ps → (∀ x ∈ ps, x.block < W.heap.size) → DataW.TrodAll enc P W' 0 (fun b => decide (b < W.heap.size)) true ts vs ds ps
 | [], [], [], _, _, h, _ => h
 | t :: ts, v :: vs, d :: ds, ps, hts, h, hlt => by
  obtain ⟨p, q, h1, h2, rfl⟩ := h
  exact ⟨p, q, Below.trod hl (hts t (by simp)).1 (hts t (by simp)).2 h1 hb (fun x hx => hlt x (by simp [hx])),
   trodAll_stays hl hb ts vs ds q (fun u hu => hts u (by simp [hu])) h2 (fun x hx => hlt x (by simp [hx])), rfl⟩
 | [], _ :: _, _, _, _, h, _ => by simp [DataW.TrodAll] at h
 | [], [], _ :: _, _, _, h, _ => by simp [DataW.TrodAll] at h
 | _ :: _, [], _, _, _, h, _ => by simp [DataW.TrodAll] at h
 | _ :: _, _ :: _, [], _, _, h, _ => by simp [DataW.TrodAll] at h
theorem law_close {H : Type} {enc : TypeId × Value → H} {P : Program} {f : Func} {s : ChangeSpec} {fid : FuncId} {W : World} {args : Array Value} {ds gs : List (DataW H)} {before : List MemPlace} {tb : TypeId}
  (hl : laidOutB P = true) (hts : ∀ t ∈ f.params.toList, P.readableRec t = true ∧ t < P.types.size) (hr : f.resultTypes = #[tb]) (hb : P.underlying tb = some .bool) (hv : s.vars = [])
  (hsp : (s.fn H (ds ++ [])).results = [.lit (.bool true)] ∧ (s.fn H (ds ++ [])).args = ds ∧ (s.fn H (ds ++ [])).vars = [])
  (hW : DataW.Whole enc P f.params.toList s.vars false W args.toList ds gs before) (h : Ans P fid args.toList W fun v _ => v = .bool true) :
  Calls P fid args W fun e W' => ∃ v, e = .returned v ∧ s.post enc P f false true false false W args v W' := by
 have hW' := hW
 obtain ⟨p, q, hA, hV, rfl, _, _⟩ := hW
 rw [hv] at hV
 obtain ⟨rfl, rfl⟩ := trodVars_none hV
 simp only [List.append_nil] at hW'
 have hlt : ∀ x ∈ p, x.block < W.heap.size := fun x hx => by simpa using hW'.lt x hx
 refine Calls.mono h.out ?_
 rintro e W' ⟨v, rfl, hx, rfl⟩
 obtain ⟨s1, s2, s3⟩ := hsp
 refine ⟨_, rfl, ds, [], p, [], p, [], hW', ?_, ?_, ?_, Below.frame hx _, fun h => by cases h⟩
 ·rw [s1, hr]
  exact trodAll_mk1 (shut_bool hb true)
 ·rw [s2]
  exact trodAll_stays hl hx _ _ _ _ hts hA hlt
 ·rw [s3, hv]
  rfl
structure Block where
 At : Int
 Order : Int
 Ty : Int
 deriving DecidableEq
structure Zone where
 From : Int
 To : Int
 Free : List Block
 Types : List Int
 deriving DecidableEq
structure PList where
 Cpu : Int
 Zone : Int
 Ty : Int
 Pages : List Int
structure Heap where
 Zones : List Zone
 Mins : List Int
 Cpus : Int
 Lists : List PList
 Live : List Block
structure Slab where
 At : Int
 Free : Int
 First : Int
 deriving DecidableEq
open Go.RowKit
theorem In_ans (x lo hi : Int) (w : World) : Ans Tryz.prog 40 [.int .i64 x, .int .i64 lo, .int .i64 hi] w fun v _ => v = .bool (decide (lo ≤ x ∧ x ≤ hi)) := by
 refine ans_of Tryz.func40 rfl Tryz.ntmps40 rfl ?_
 repeat' (first | (first | refine CW.seq ?_ | refine CW.region ?_ | refine CW.ret ?_) | (refine Post.seq ?_) | refine SW.nil ?_ | (show SW _ _ _ _ (⟨_, _, _, _, _, some _⟩ :: _) _ _; first | refine SW.want_t rfl rfl (by with_reducible rfl) ?_ | refine SW.skip_t rfl rfl (by with_reducible rfl) rfl ?_ | refine SW.splitd rfl rfl rfl (fun h => ?_) (fun h => ?_)) | refine SW.pure rfl rfl ?_)
 all_goals refine Post.ret1 rfl rfl ⟨_, rfl, Ext.refl _, ?_⟩
 all_goals simp [*]
theorem sameInts_ans (A B : Option Addr) (n m c d : Nat) (xs ys : List Int) (w : World) (hx : Sl w 1 encI A n xs) (hy : Sl w 1 encI B m ys) (hn : n ≤ 2305843009213693952) :
  Ans Tryz.prog 21 [.slice A n c, .slice B m d] w fun v _ => v = .bool (decide (xs = ys)) := by
 refine ans_of Tryz.func21 rfl Tryz.ntmps21 rfl ?_
 have hl := hx.len
 have hl' := hy.len
 have hA := hx.base
 have hB := hy.base
 have hw := Ext.refl w
 repeat' (first | (first | refine CW.seq ?_ | refine CW.region ?_ | refine CW.block ?_ | refine CW.condn rfl (fun h => ?_) (fun h => ?_) | refine CW.skip ?_ | refine CW.ret ?_) | (first | refine Post.seq ?_ | refine Post.seq_ret ?_) | refine SW.nil ?_ | refine SW.pure rfl rfl ?_ | refine SW.st (st_len rfl) rfl ?_)
 ·refine Post.ret1 rfl rfl ⟨_, rfl, hw, ?_⟩
  have : xs ≠ ys := fun e => by subst e; omega
  simp [this]
 ·have hnm : n = m := by omega
  refine CW.loop (fun k : Nat => [(0, .slice A n c), (1, .slice B m d), (5, .int .i64 (k : Int))])
   (fun k w' => k ≤ n ∧ Ext w w' ∧ ∀ j (h1 : j < xs.length) (h2 : j < ys.length), j < k → xs[j] = ys[j]) (fun k => n - k) 0 ⟨rfl, rfl, rfl, trivial⟩ ⟨by omega, hw, fun j _ _ h => by omega⟩ ?_
  clear hw
  rintro k w' ⟨hk, hw, heq⟩
  by_cases hkn : k < n
  ·repeat' (first | (first | refine CW.seq ?_ | refine CW.region ?_ | refine CW.block ?_ | refine CW.condd_t rfl (by omega) ?_ | refine CW.condn rfl (fun h => ?_) (fun h => ?_) | refine CW.skip ?_ | refine CW.ret ?_ | (apply CW.quiet1 mixed; (· kernel_rfl); rotate_left; intro w1 hw1; replace hw := Ext.trans hw hw1; clear hw1; rotate_right)) | (first | refine Post.seq ?_ | refine Post.seq_ret ?_ | refine Post.blk ?_ | refine Post.blk_ret ?_ | refine Post.again_ret ?_) | refine SW.nil ?_ | refine SW.pure rfl rfl ?_ | (refine SW.st (st_add rfl rfl (by omega) (by omega)) rfl ?_) | (refine SW.st (st_indexN rfl rfl (by assumption) (by omega)) rfl ?_) | refine SW.st (st_len rfl) rfl ?_ | (show SW _ _ _ _ (⟨_, Op.load _ _, _, _, _, none⟩ :: _) _ _; first | refine SW.st (st_loadx hw rfl (hx.one hkn rfl)) rfl ?_ | refine SW.st (st_loadx hw rfl (hy.one (hnm ▸ hkn) rfl)) rfl ?_) | exact SW.qnil rfl)
   ·refine Post.ret1 rfl rfl ⟨_, rfl, hw, ?_⟩
    have : xs ≠ ys := fun e => by subst e; exact h rfl
    simp [this]
   ·refine Post.again (k + 1) ⟨rfl, rfl, rfl, trivial⟩ (by omega) ⟨by omega, hw, fun j h1 h2 hj => ?_⟩
    by_cases hjk : j = k
    ·subst hjk; assumption
    ·exact heq j h1 h2 (by omega)
  ·repeat' (first | (first | refine CW.seq ?_ | refine CW.region ?_ | refine CW.condd_f rfl (by omega) ?_ | refine CW.ret ?_ | refine CW.exit ?_) | (first | refine Post.seq ?_ | refine Post.seq_exit ?_ | refine Post.hit ?_ | refine Post.again_exit ?_) | refine SW.nil ?_ | refine SW.pure rfl rfl ?_ | refine SW.st (st_len rfl) rfl ?_)
   refine Post.ret1 rfl rfl ⟨_, rfl, hw, ?_⟩
   have : xs = ys := List.ext_getElem (by omega) fun j h1 h2 => heq j h1 h2 (by omega)
   simp [this]
open Go.RowKit
open Go.RowKit
theorem in_ans (A : Option Addr) (n c : Nat) (x k : Int) (w : World) (hn : n ≤ 2305843009213693952) : Ans Tryz.prog 108 [.slice A n c, .int .i64 x, .int .i64 k] w fun v _ => v = .bool (decide (0 ≤ x ∧ 0 ≤ k ∧ k ≤ n ∧ x + k ≤ n)) := by
 refine ans_of Tryz.func108 rfl Tryz.ntmps108 rfl ?_
 repeat' (first | (first | refine CW.seq ?_ | refine CW.region ?_ | refine CW.ret ?_) | (refine Post.seq ?_) | refine SW.nil ?_ | (show SW _ _ _ _ (⟨_, _, _, _, _, some _⟩ :: _) _ _; first | refine SW.want_t rfl rfl (by with_reducible rfl) ?_ | refine SW.skip_t rfl rfl (by with_reducible rfl) rfl ?_ | refine SW.splitd rfl rfl rfl (fun h => ?_) (fun h => ?_)) | refine SW.pure rfl rfl ?_ | (refine SW.st (st_sub rfl rfl (by omega) (by omega)) rfl ?_) | refine SW.st (st_len rfl) rfl ?_)
 all_goals refine Post.ret1 rfl rfl ⟨_, rfl, Ext.refl _, ?_⟩
 all_goals congr 1
 all_goals symm
 all_goals first | (refine decide_eq_true ?_; omega) | (refine decide_eq_false ?_; omega) | (rw [decide_eq_decide]; omega)
theorem there_ans (A : Option Addr) (n c : Nat) (x k : Int) (w : World) (hn : n ≤ 2305843009213693952) : Ans Tryz.prog 114 [.slice A n c, .int .i64 x, .int .i64 k] w fun v _ => v = .bool (decide (0 ≤ x ∧ 0 ≤ k ∧ k ≤ n ∧ x + k ≤ n)) := by
 refine ans_of Tryz.func114 rfl Tryz.ntmps114 rfl ?_
 have hw := Ext.refl w
 repeat' (first | (first | refine CW.seq ?_ | refine CW.region ?_ | refine CW.ret ?_) | (refine Post.seq ?_) | refine SW.nil ?_ | (show SW _ _ _ _ (⟨_, _, _, _, _, some _⟩ :: _) _ _; first | refine SW.want_t rfl rfl (by with_reducible rfl) ?_ | refine SW.skip_t rfl rfl (by with_reducible rfl) rfl ?_ | refine SW.splitd rfl rfl rfl (fun h => ?_) (fun h => ?_)) | refine SW.pure rfl rfl ?_ | (refine SW.st (st_add rfl rfl (by omega) (by omega)) rfl ?_) | refine SW.st (st_len rfl) rfl ?_ | (show SW _ _ _ _ (⟨_, Op.call ⟨.value (.func _), _, _⟩, _, _, _, none⟩ :: _) _ _; (refine SW.call rfl rfl (In_ans _ _ _ _) ?_; intro v w1 hw1 hv; subst hv; replace hw := Ext.trans hw hw1; clear hw1)))
 all_goals refine Post.ret1 rfl rfl ⟨_, rfl, hw, ?_⟩
 all_goals congr 1
 all_goals symm
 all_goals first | (refine decide_eq_true ?_; omega) | (refine decide_eq_false ?_; omega) | (rw [decide_eq_decide]; omega)
def Copied (w : World) (e sz : Nat) {α : Type} (enc : α → List Value) (n : Nat) (l : List α) : Value → World → Prop := fun v w' => ∃ A c, v = .slice A n c ∧ Own w' w.heap.size e sz enc A n c l
theorem words_ans (A : Option Addr) (n c : Nat) (l : List Int) (w : World) (hl : Sl w 1 encI A n l) (hn : n * 8 ≤ 140737488355328) : Ans Tryz.prog 14 [.slice A n c] w (Copied w 3 1 encI n l) := by
 refine ans_of Tryz.func14 rfl Tryz.ntmps14 rfl ?_
 have hw := Ext.refl w
 have hA := hl.base
 repeat' (first | (first | refine CW.seq ?_ | refine CW.region ?_ | refine CW.block ?_) | (refine Post.seq ?_) | refine SW.nil ?_ | refine SW.pure rfl rfl ?_)
 refine CW.loop (fun s : Nat × Option Addr × Nat => [(0, .slice A n c), (3, .slice s.2.1 s.1 s.2.2), (4, .int .i64 (s.1 : Int))])
  (fun s w' => s.1 ≤ n ∧ Ext w w' ∧ Own w' w.heap.size 3 1 encI s.2.1 s.1 s.2.2 (l.take s.1)) (fun s => n - s.1) (0, none, 0) ⟨rfl, rfl, rfl, trivial⟩ ⟨by omega, hw, by simpa using Own.nil_ _ _ _ _ _ _⟩ ?_
 clear hw
 rintro ⟨k, A1, c1⟩ w' ⟨hk, hw, hO⟩
 simp only at hk hO ⊢
 by_cases hkn : k < n
 ·repeat' (first | (first | refine CW.seq ?_ | refine CW.region ?_ | refine CW.block ?_ | refine CW.condd_t rfl (by omega) ?_ | refine CW.skip ?_) | (refine Post.seq ?_) | refine SW.nil ?_ | refine SW.pure rfl rfl ?_ | (refine SW.st (st_indexN rfl rfl (by assumption) (by omega)) rfl ?_) | refine SW.st (st_len rfl) rfl ?_ | (show SW _ _ _ _ (⟨_, Op.load _ _, _, _, _, none⟩ :: _) _ _; refine SW.st (st_loadx hw rfl (hl.one hkn rfl)) rfl ?_))
  refine SW.build1 rfl rfl rfl rfl rfl fun b w1 hw1 hb hB => ?_
  replace hw := Ext.trans hw hw1
  replace hO := hO.ext hw1
  refine SW.append hO (Blk.sl1 (enc := encI) hB) hw.size rfl rfl rfl (by omega) (by omega) fun A2 c2 w2 hO1 hg => ?_
  replace hw := ext_grown hw hg (Nat.le_refl _) hO.row_ge
  repeat' (first | (refine CW.region ?_) | (first | refine Post.seq ?_ | refine Post.blk ?_) | refine SW.nil ?_ | refine SW.pure rfl rfl ?_ | (refine SW.st (st_add rfl rfl (by omega) (by omega)) rfl ?_))
  refine Post.again (k + 1, A2, c2) ⟨rfl, rfl, rfl, trivial⟩ (by simp only; omega) ⟨by simp only; omega, hw, ?_⟩
  rw [List.take_succ_eq_append_getElem (hl.lt hkn)]
  exact hO1
 ·repeat' (first | (first | refine CW.seq ?_ | refine CW.region ?_ | refine CW.condd_f rfl (by omega) ?_ | refine CW.ret ?_ | refine CW.exit ?_) | (first | refine Post.seq ?_ | refine Post.seq_exit ?_ | refine Post.hit ?_ | refine Post.again_exit ?_) | refine SW.nil ?_ | refine SW.pure rfl rfl ?_ | refine SW.st (st_len rfl) rfl ?_)
  obtain rfl : k = n := by omega
  refine Post.ret1 rfl rfl ⟨_, rfl, hw, A1, c1, rfl, ?_⟩
  rwa [List.take_of_length_le (by have := hl.len; omega)] at hO
theorem CloneInt_ans (A : Option Addr) (n c : Nat) (l : List Int) (w : World) (hl : Sl w 1 encI A n l) (hn : n * 8 ≤ 140737488355328) : Ans Tryz.prog 62 [.slice A n c] w (Copied w 3 1 encI n l) := by
 refine ans_of Tryz.func62 rfl Tryz.ntmps62 rfl ?_
 have hw := Ext.refl w
 repeat' (first | (first | refine CW.seq ?_ | refine CW.region ?_) | (refine Post.seq ?_) | refine SW.nil ?_ | refine SW.pure rfl rfl ?_)
 refine SW.st (st_eqnil rfl rfl) rfl ?_
 repeat' (first | (first | refine CW.seq ?_ | refine CW.region ?_ | refine CW.cond rfl (fun h => ?_) (fun h => ?_) | refine CW.skip ?_ | refine CW.ret ?_) | (first | refine Post.seq ?_ | refine Post.seq_ret ?_) | refine SW.nil ?_ | refine SW.pure rfl rfl ?_)
 ·have hn0 : n = 0 := by
   rcases Nat.eq_zero_or_pos n with h0 | h0
   ·exact h0
   ·have := hl.base h0; simp_all
  subst hn0
  have : l = [] := List.eq_nil_of_length_eq_zero hl.len
  subst this
  exact Post.ret1 rfl rfl ⟨_, rfl, hw, none, 0, rfl, Own.nil_ _ _ _ _ _ _⟩
 ·refine SW.build0 rfl fun b w1 hw1 hb => ?_
  replace hw := Ext.trans hw hw1
  repeat' (refine SW.pure rfl rfl ?_)
  refine SW.appendR (Nat.zero_add n) (List.nil_append l) (Own.nil_ w1 w.heap.size _ _ encI (some ⟨b, 0, none⟩)) (hl.ext hw) hw.size rfl rfl rfl (by omega) (by omega) fun A2 c2 w2 hO hg => ?_
  replace hw := ext_grown hw hg (Nat.le_refl _) (by simp [ownB])
  repeat' (first | (refine CW.ret ?_) | (refine Post.seq ?_) | refine SW.nil ?_ | refine SW.pure rfl rfl ?_)
  exact Post.ret1 rfl rfl ⟨_, rfl, hw, A2, c2, rfl, hO⟩
open Go.RowKit
end Go.Proofs.YtigikedbffjeiaaGreat
