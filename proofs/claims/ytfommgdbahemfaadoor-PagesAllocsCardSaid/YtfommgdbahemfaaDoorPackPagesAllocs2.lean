/-
  Texts of the claim PagesAllocs, part 2: what its theorem leans on.
-/
import Derived.Test.YtfommgdbahemfaaDoorPackPagesAllocs1
import Derived.Laws.CopyRow
import Derived.Laws.StructEq
import Derived.Test.YtfommgdbahemfaaDoorChecked
set_option linter.unusedVariables false
namespace Go.Proofs.YtfommgdbahemfaaDoor
open Go.RowKit
section
variable {P : Program} {L : Env} {w : World} {d : Option Nat} {T : TypeId} {pos : String} {af : Array Edge} {g : Option (Nat × Bool)}
theorem st_nilCheck {x : Operand} {ad : Addr} (hx : opv L x = some (.pointer (some ad))) : St P ⟨d, .nilCheck x, T, pos, af, g⟩ L w (.pointer (some ad)) :=
 ⟨fun _ a ha w' _ => by have e1 := ha.eval hx; generalize a.eval = ρ at *; simp [execOp, e1]⟩
theorem st_cap {t : TypeId} {e : TypeId} {sz : Nat} [c : SliceTy P t e sz] {x : Operand} {A : Option Addr} {n cap : Nat} (hx : opv L x = some (.slice A n cap)) :
  St P ⟨d, .call ⟨.builtin .cap, #[x], #[t]⟩, T, pos, af, g⟩ L w (.int .i64 cap) :=
 ⟨fun _ a ha w' _ => by simp [execOp, resolve, invoke, builtin, ha.eval hx, Builtin.cap_, run_underlying c.und, goInt]⟩
theorem st_min {t u : TypeId} {x y : Operand} {i j : Int} (hx : opv L x = some (.int .i64 i)) (hy : opv L y = some (.int .i64 j)) :
  St P ⟨d, .call ⟨.builtin .min, #[x, y], #[t, u]⟩, T, pos, af, g⟩ L w (.int .i64 (min i j)) :=
 ⟨fun _ a ha w' _ => by
  have e : (if j < i then j else i) = min i j := by split <;> omega
  simp [execOp, resolve, invoke, builtin, ha.eval hx, ha.eval hy, Builtin.min_, Builtin.min2, e]⟩
theorem st_max {t u : TypeId} {x y : Operand} {i j : Int} (hx : opv L x = some (.int .i64 i)) (hy : opv L y = some (.int .i64 j)) :
  St P ⟨d, .call ⟨.builtin .max, #[x, y], #[t, u]⟩, T, pos, af, g⟩ L w (.int .i64 (max i j)) :=
 ⟨fun _ a ha w' _ => by
  have e : (if i < j then j else i) = max i j := by split <;> omega
  simp [execOp, resolve, invoke, builtin, ha.eval hx, ha.eval hy, Builtin.max_, Builtin.max2, e]⟩
theorem st_func {f : FuncId} {cap : List Operand} {vs : List Value} (hx : opvs L cap = some vs) : St P ⟨d, .makeFunc (.func f) #[] cap.toArray, T, pos, af, g⟩ L w (.func (.func f) #[] vs.toArray) :=
 ⟨fun _ a ha w' _ => by simp [execOp, Instr.makeFunc, ← ha.evals hx]⟩
end
def setAt (cs : List Value) (off : Nat) : List Value → List Value
 | [] => cs
 | v :: r => setAt (cs.set off v) (off + 1) r
def fillL (places : List (Nat × Nat)) (cells : List Value) : List (Nat × Value) → Option (List Value)
 | [] => some cells
 | (i, v) :: rest => match places[i]? with
  | none => none
  | some (off, size) => bif Nat.beq v.cells.size size && Nat.ble (off + v.cells.size) cells.length then fillL places (setAt cells off v.cells.toList) rest else none
theorem fold_setAt : ∀ (vs : List Value) (k off : Nat) (cs : List Value), (vs.zipIdx k).foldl (fun (cs : Array Value) (p : Value × Nat) => cs.setIfInBounds (off + p.2) p.1) cs.toArray = (setAt cs (off + k) vs).toArray
 | [], _, _, _ => rfl
 | v :: r, k, off, cs => by
  simp only [List.zipIdx_cons, List.foldl_cons, setAt]
  rw [List.setIfInBounds_toArray, fold_setAt r (k + 1) off]
  rfl
theorem fill_of {places : List (Nat × Nat)} : ∀ (ps : List (Nat × Value)) (cells cs : List Value), fillL places cells ps = some cs → Instr.fill (places.toArray[·]?) cells.toArray ps = some cs.toArray
 | [], _, _, h => by simp [fillL] at h; subst h; rfl
 | (i, v) :: rest, cells, cs, h => by
  simp only [fillL] at h
  simp only [Instr.fill, List.getElem?_toArray]
  split at h
  ·cases h
  ·rename_i off size hp
   simp only [cond_eq_ite] at h
   split at h
   ·rename_i hb
    simp only [Bool.and_eq_true] at hb
    have h1 := Nat.eq_of_beq_eq_true hb.1
    have h2 : off + v.cells.size ≤ cells.length := by simpa using hb.2
    simp only [hp]
    have := fold_setAt v.cells.toList 0 off cells
    simp only [Nat.add_zero] at this
    have e2 : Array.foldl (fun (cs : Array Value) (x : Value × Nat) => cs.setIfInBounds (off + x.2) x.1) cells.toArray v.cells.zipIdx = (setAt cells off v.cells.toList).toArray := by
     rw [← this, ← Array.foldl_toList]
     simp [Array.toList_zipIdx]
    rw [if_neg (by simp; omega)]
    have e3 := fill_of (places := places) rest _ _ h
    rw [← e2] at e3
    simpa using e3
   ·cases h
class BuildTy (P : Program) (t : TypeId) (places : outParam (List (Nat × Nat))) (zc : outParam (List Value)) : Prop where
 und : ((P.underlying t).bind fun | .struct fs => some ((fs.toList.map fun f => (f.offset, (P.info? f.type).map (·.size)))) | _ => none) = some (places.map fun p => (p.1, some p.2))
 zero : ((P.info? t).bind (·.zero)).map (·.cells) = some zc.toArray
def partsV (L : Env) : List (Nat × Operand) → Option (List (Nat × Value))
 | [] => some []
 | (i, x) :: r => match opv L x, partsV L r with
  | some v, some vs => some ((i, v) :: vs)
  | _, _ => none
theorem Fit.parts {n : Nat} {a : Act} {L : Env} (h : Fit n a L) : ∀ {xs : List (Nat × Operand)} {vs : List (Nat × Value)}, partsV L xs = some vs → xs.map (fun p => (p.1, a.eval p.2)) = vs
 | [], vs, e => by simp [partsV] at e; subst e; rfl
 | (i, x) :: r, vs, e => by
  simp only [partsV] at e
  cases hx : opv L x with
  | none => simp [hx] at e
  | some v =>
   cases hr : partsV L r with
   | none => simp [hx, hr] at e
   | some us =>
    simp [hx, hr] at e
    subst e
    simp [h.eval hx, h.parts hr]
theorem run_mapM_places {P : Program} (w : World) : ∀ (fs : List Field) (places : List (Nat × Nat)), (fs.map fun f => (f.offset, (P.info? f.type).map (·.size))) = (places.map fun p => (p.1, some p.2)) →
  (fs.mapM (m := Sem) fun f => do return (f.offset, ← sizeOf f.type)).run P w = .ok places w
 | [], [], _ => by simp
 | f :: fs, p :: ps, h => by
  simp only [List.map_cons, List.cons.injEq, Prod.mk.injEq] at h
  have ih := run_mapM_places w fs ps h.2
  have hs := run_sizeOf h.1.2 w
  rw [List.mapM_cons]
  simp only [Sem.run_bind, hs, Result.andThen, pure, Sem.run]
  rw [h.1.1]
  have ih' : (fs.mapM (m := Sem) fun f => do return (f.offset, ← sizeOf f.type)).run P w = .ok ps w := ih
  simp only [pure] at ih'
  rw [ih']
 | [], _ :: _, h => by simp at h
 | _ :: _, [], h => by simp at h
section
variable {P : Program} {L : Env} {w : World} {d : Option Nat} {T : TypeId} {pos : String} {af : Array Edge} {g : Option (Nat × Bool)}
theorem st_build {t : TypeId} {places : List (Nat × Nat)} {zc cs : List Value} [c : BuildTy P t places zc] {ps : List (Nat × Operand)} {pv : List (Nat × Value)} (hp : partsV L ps = some pv) (hf : fillL places zc pv = some cs) :
  St P ⟨d, .build t ps.toArray, T, pos, af, g⟩ L w (.agg cs.toArray) :=
 ⟨fun n a ha w' _ => by
  have hz := c.zero
  cases hi : P.info? t with
  | none => simp [hi] at hz
  | some inf =>
   cases hz' : inf.zero with
   | none => simp [hi, hz'] at hz
   | some z =>
    simp [hi, hz'] at hz
    have hu := c.und
    cases hd : P.underlying t with
    | none => simp [hd] at hu
    | some D =>
     cases D <;> simp only [hd, Option.bind_some, reduceCtorEq, Option.some.injEq] at hu
     rename_i fs
     have hm := run_mapM_places (P := P) w' fs.toList places hu
     have hfill := fill_of pv zc cs hf
     have hpv := ha.parts hp
     have hmm : (fs.mapM (m := Sem) fun f => do return (f.offset, ← sizeOf f.type)).run P w' = .ok places.toArray w' := by
      rw [Array.mapM_eq_mapM_toList]
      have e : ∀ (x : Sem (List (Nat × Nat))), x.run P w' = .ok places w' → (Functor.map List.toArray x).run P w' = .ok places.toArray w' := fun x hx => by simp [hx, Result.andThen]
      exact e _ hm
     have hzv : (zeroValue t).run P w' = .ok z w' := by simp [zeroValue, typeInfo, hi, hz']
     have hb : (Instr.build t (ps.map fun p => (p.1, a.eval p.2)).toArray).run P w' = .ok (.agg cs.toArray) w' := by
      unfold Instr.build
      simp only [Sem.run_bind, hzv, Result.andThen, run_underlying hd]
      have e := hmm
      simp only [pure] at e ⊢
      rw [e]
      simp only [hz, hpv, hfill, Sem.run]
     have hx : (execOp a.eval ⟨d, .build t ps.toArray, T, pos, af, g⟩).run P w' = (do pure (Next.value (← Instr.build t (ps.map fun p => (p.1, a.eval p.2)).toArray)) : Sem Next).run P w' := by simp [execOp]
     rw [hx, Sem.run_bind, hb]
     rfl⟩
end
inductive ResIs (P : Program) (L : Env) (w : World) : List ResultVar → List Value → Prop
 | nil : ResIs P L w [] []
 | tmp {t : Nat} {v : Value} {rs : List ResultVar} {vs : List Value} : get L t = some v → ResIs P L w rs vs → ResIs P L w (.tmp t :: rs) (v :: vs)
 | cell {t ty b tb m : Nat} {cs : List Value} {rs : List ResultVar} {vs : List Value} : AggTy P ty m → get L t = some (.pointer (some ⟨b, 0, none⟩)) → Blk w b tb cs → cs.length = m → ResIs P L w rs vs → ResIs P L w (.cell t ty :: rs) (.agg cs.toArray :: vs)
theorem ResIs.run {P : Program} {L : Env} {w : World} {n : Nat} {a : Act} (ha : Fit n a L) {rs : List ResultVar} {vs : List Value} (h : ResIs P L w rs vs) :
  (rs.mapM (m := Sem) fun | .tmp t => pure (a.tmps.getD t undef) | .cell b t => do loadVar t (← asAddr (a.tmps.getD b undef))).run P w = .ok vs w := by
 induction h with
 | nil => rfl
 | @tmp t v rs vs hg hr ih =>
  rw [List.mapM_cons]
  simp only [Sem.run_bind, ha.has _ _ hg, pure, Sem.run, Result.andThen]
  simp only [pure] at ih
  rw [ih]
 | @cell t ty b tb m cs rs vs c hg hB hl hr ih =>
  rw [List.mapM_cons]
  have hload : (loadVar ty ⟨b, 0, none⟩).run P w = .ok (.agg cs.toArray) w := by
   subst hl
   simp [loadVar, run_isAgg_agg, run_sizeOf c.size, run_loadCells_list (P := P) w ⟨b, 0, none⟩ cs (fun j v hv => hB.cell hv)]
  have hasA : (asAddr (a.tmps.getD t undef)).run P w = .ok ⟨b, 0, none⟩ w := by rw [ha.has _ _ hg]; rfl
  simp only [Sem.run_bind, hasA, Result.andThen, hload]
  rw [ih]
  rfl
section
variable {P : Program} {fn : Func} {R : Ending → World → Prop} {n : Nat} {L : Env} {w : World}
theorem ResIs.results {rs : List ResultVar} {vs : List Value} (hr : fn.results = rs.toArray) (h : ResIs P L w rs vs) {a : Act} (ha : Fit n a L) :
  (results fn a.tmps).run P w = .ok (if h : vs.toArray.size = 1 then vs.toArray[0] else .tuple vs.toArray) w := by
 have h1 := h.run ha
 unfold Go.results
 rw [hr, Array.mapM_eq_mapM_toList]
 have e : ∀ (x : Sem (List Value)), x.run P w = .ok vs w → (do let vs ← (Functor.map List.toArray x : Sem (Array Value)); pure (if h : vs.size = 1 then vs[0] else .tuple vs) : Sem Value).run P w = .ok (if h : vs.toArray.size = 1 then vs.toArray[0] else .tuple vs.toArray) w := fun x hx => by
  simp [hx, Result.andThen]
 exact e _ h1
theorem Post.ret1c {t ty b tb m : Nat} {cs : List Value} [c : AggTy P ty m] (hr : fn.results = #[.cell t ty]) (hv : get L t = some (.pointer (some ⟨b, 0, none⟩))) (hB : Blk w b tb cs) (hl : Nat.beq cs.length m = true) (h : R (.returned (.agg cs.toArray)) w) : Post n (bodyPost P fn R) .ret L w :=
 ⟨fun a ha => ⟨ha.defers, _, by simpa using ResIs.results (rs := [.cell t ty]) hr (.cell c hv hB (Nat.eq_of_beq_eq_true hl) .nil) ha, h⟩⟩
theorem Post.ret2c {t u ty b tb m : Nat} {cs : List Value} {x : Value} [c : AggTy P ty m] (hr : fn.results = #[.cell t ty, .tmp u]) (hv : get L t = some (.pointer (some ⟨b, 0, none⟩))) (hx : get L u = some x) (hB : Blk w b tb cs) (hl : Nat.beq cs.length m = true) (h : R (.returned (.tuple #[.agg cs.toArray, x])) w) : Post n (bodyPost P fn R) .ret L w :=
 ⟨fun a ha => ⟨ha.defers, _, by simpa using ResIs.results (rs := [.cell t ty, .tmp u]) hr (.cell c hv hB (Nat.eq_of_beq_eq_true hl) (.tmp hx .nil)) ha, h⟩⟩
theorem Post.ret3c {t u q ty b tb m : Nat} {cs : List Value} {x y : Value} [c : AggTy P ty m] (hr : fn.results = #[.cell t ty, .tmp u, .tmp q]) (hv : get L t = some (.pointer (some ⟨b, 0, none⟩))) (hx : get L u = some x) (hy : get L q = some y) (hB : Blk w b tb cs) (hl : Nat.beq cs.length m = true) (h : R (.returned (.tuple #[.agg cs.toArray, x, y])) w) : Post n (bodyPost P fn R) .ret L w :=
 ⟨fun a ha => ⟨ha.defers, _, by simpa using ResIs.results (rs := [.cell t ty, .tmp u, .tmp q]) hr (.cell c hv hB (Nat.eq_of_beq_eq_true hl) (.tmp hx (.tmp hy .nil))) ha, h⟩⟩
end
section
variable {P : Program} {n : Nat} {ops : Array Oper} {Q : Exit → Act → World → Prop} {rest : List Oper} {L : Env} {w : World}
theorem run_callv {a : Act} {d : Option Nat} {fo : Operand} {f : FuncId} {cap : List Value} {xs : List Operand} {ts : Array TypeId} {T : TypeId} {pos : String} {af : Array Edge} {g : Option (Nat × Bool)} {w' : World}
  [hb : Body P f] (hf : a.eval fo = .func (.func f) #[] cap.toArray) : (execOp a.eval ⟨d, .call ⟨.value fo, xs.toArray, ts⟩, T, pos, af, g⟩).run P w' = .ok (.enter f (xs.map a.eval ++ cap).toArray) w' := by
 simp only [execOp, resolve, hf, Deferred.ofValue, Sem.run_bind, pure, Sem.run, Result.andThen, invoke, List.map_toArray]
 have := hb.out (xs.map a.eval ++ cap).toArray w'
 simpa using this
theorem SW.callv {d : Nat} {fo : Operand} {f : FuncId} {cap : List Value} {xs : List Operand} {vs : List Value} {ts : Array TypeId} {T : TypeId} {pos : String} {af : Array Edge} {R : Value → World → Prop}
  [Body P f] (hf : opv L fo = some (.func (.func f) #[] cap.toArray)) (hx : opvs L xs = some vs) (hn : Nat.blt d n = true) (hc : Ans P f (vs ++ cap) w R) (h : ∀ v w', Ext w w' → R v w' → SW P n ops (.eff Q) rest ((d, v) :: L) w') :
  SW P n ops (.eff Q) (⟨some d, .call ⟨.value fo, xs.toArray, ts⟩, T, pos, af, none⟩ :: rest) L w :=
 ⟨fun a ha => by
  simp only [swp, wpList, Region.wanted, if_true]
  refine .inl ?_
  unfold Oper.wp
  rw [run_callv (ha.eval hf), Oper.upon_enter, ha.evals hx]
  refine Calls.mono hc.out ?_
  rintro e w' ⟨v, rfl, hx', hv⟩
  exact (h v w' hx' hv).out _ (ha.put hn v)⟩
theorem SW.qcallv {K : Env → Prop} {d : Nat} {fo : Operand} {f : FuncId} {cap : List Value} {xs : List Operand} {vs : List Value} {ts : Array TypeId} {T : TypeId} {pos : String} {af : Array Edge} {v : Value}
  [Body P f] (hf : opv L fo = some (.func (.func f) #[] cap.toArray)) (hx : opvs L xs = some vs) (hn : Nat.blt d n = true) (hc : ∀ w', Ext w w' → Ans P f (vs ++ cap) w' fun u _ => u = v) (h : SW P n ops (.qui K) rest ((d, v) :: L) w) :
  SW P n ops (.qui K) (⟨some d, .call ⟨.value fo, xs.toArray, ts⟩, T, pos, af, none⟩ :: rest) L w :=
 ⟨fun a ha => by
  simp only [swp, wpQuiet, Region.wanted, if_true]
  refine ⟨v, fun w' hw' => ?_, h.out _ (ha.put hn v)⟩
  unfold Oper.quietAt
  rw [run_callv (ha.eval hf), ha.evals hx]
  refine ⟨rfl, Calls.mono (hc w' hw').out ?_⟩
  rintro e w'' ⟨u, rfl, hx', rfl⟩
  exact ⟨rfl, hw'.trans hx'⟩⟩
end
section
variable {P : Program} {L : Env} {w : World} {d : Option Nat} {T : TypeId} {pos : String} {af : Array Edge} {g : Option (Nat × Bool)}
theorem st_sliceLo {t e : TypeId} {sz : Nat} [c : SliceTy P t e sz] {x y : Operand} {A : Option Addr} {n cap k : Nat} (hx : opv L x = some (.slice A n cap)) (hy : opv L y = some (.int .i64 (k : Int))) (hk : k ≤ n) (hc : n ≤ cap) :
  St P ⟨d, .slice t x (some y) none none, T, pos, af, g⟩ L w (.slice (if cap = k then A else A.map (·.add (k * sz))) (n - k) (cap - k)) :=
 ⟨fun _ a ha w' _ => by
  have e1 := ha.eval hx; have e2 := ha.eval hy; generalize a.eval = ρ at *
  simp [execOp, e1, e2, Instr.sliceAt, Instr.slice, Instr.sliceBounds, Instr.sliceBound, asIntOf, run_underlying c.und, run_sizeOf c.size, hk]⟩
theorem st_sliceHi {t e : TypeId} {sz : Nat} [c : SliceTy P t e sz] {x y : Operand} {A : Option Addr} {n cap k : Nat} (hx : opv L x = some (.slice A n cap)) (hy : opv L y = some (.int .i64 (k : Int))) (hk : k ≤ cap) :
  St P ⟨d, .slice t x none (some y) none, T, pos, af, g⟩ L w (.slice A k cap) :=
 ⟨fun _ a ha w' _ => by
  have e1 := ha.eval hx; have e2 := ha.eval hy; generalize a.eval = ρ at *
  have h0 : A.map (·.add 0) = A := by cases A <;> simp [add_zero]
  simp [execOp, e1, e2, Instr.sliceAt, Instr.slice, Instr.sliceBounds, Instr.sliceBound, asIntOf, run_underlying c.und, run_sizeOf c.size, hk, h0]⟩
end
def isI64 : Option TypeDesc → Bool
 | some (.int .i64) => true
 | _ => false
theorem isI64_eq {o : Option TypeDesc} (h : isI64 o = true) : o = some (.int .i64) := by
 unfold isI64 at h
 split at h
 ·rfl
 ·cases h
class IntsTy (P : Program) (t : TypeId) (k : outParam Nat) : Prop where
 und : P.underlying t = some (.struct (P.fieldsOf t))
 stood : P.stoodInHeld t = false
 guard : P.eqGuardType P.depth t = false
 flds : ((P.fieldsOf t).toList.map fun f => (f.name == "_", f.offset, isI64 (P.underlying f.type), (P.info? f.type).map (·.size))) = (List.range k).map fun i => (false, i, true, some 1)
theorem run_part_int {P : Program} {w : World} {t off : Nat} {xs : Array Value} {v : Value} (hu : P.underlying t = some (.int .i64)) (hs : (P.info? t).map (·.size) = some 1) (hv : xs[off]? = some v) : (part t xs off).run P w = .ok v w := by
 have hlt : off < xs.size := (Array.getElem?_eq_some_iff.1 hv).1
 have hg : xs[off] = v := (Array.getElem?_eq_some_iff.1 hv).2
 simp only [part, isAgg, Sem.run_bind, run_underlying hu, Result.andThen, pure, Sem.run]
 simp [hv]
theorem run_eqFields_ints {P : Program} {w : World} (d : Nat) (xs ys : List Int) : ∀ (fs : List Field) (j : Nat),
  (fs.map fun f => (f.name == "_", f.offset, isI64 (P.underlying f.type), (P.info? f.type).map (·.size))) = (List.range' j fs.length).map (fun i => (false, i, true, some 1)) → xs.length = j + fs.length → ys.length = j + fs.length →
  (Op.eqFields (d + 1) (xs.map (Value.int .i64)).toArray (ys.map (Value.int .i64)).toArray fs).run P w = .ok (decide (xs.drop j = ys.drop j)) w
 | [], j, _, hx, hy => by
  simp only [List.length_nil] at hx hy
  have e1 : xs.drop j = [] := by simp; omega
  have e2 : ys.drop j = [] := by simp; omega
  simp [Op.eqFields, e1, e2]
 | f :: fs, j, h, hx, hy => by
  simp only [List.map_cons, List.length_cons, List.range'_succ, List.cons.injEq, Prod.mk.injEq] at h hx hy
  obtain ⟨⟨h1, h2, h3, h4⟩, h5⟩ := h
  have ih := run_eqFields_ints (w := w) d xs ys fs (j + 1) h5 (by omega) (by omega)
  have hjx : j < xs.length := by omega
  have hjy : j < ys.length := by omega
  have hne : f.name ≠ "_" := by simpa using h1
  have p1 := run_part_int (P := P) (w := w) (off := j) (xs := (xs.map (Value.int .i64)).toArray) (isI64_eq h3) h4 (v := .int .i64 xs[j]) (by simp [hjx])
  have p2 := run_part_int (P := P) (w := w) (off := j) (xs := (ys.map (Value.int .i64)).toArray) (isI64_eq h3) h4 (v := .int .i64 ys[j]) (by simp [hjy])
  have dx := List.drop_eq_getElem_cons hjx
  have dy := List.drop_eq_getElem_cons hjy
  generalize xs.drop (j + 1) = dx' at *
  generalize ys.drop (j + 1) = dy' at *
  rw [dx, dy]
  simp only [Op.eqFields, if_pos hne, Sem.run_bind, h2, p1, p2, Result.andThen, run_equalIn_int w d f.type .i64 .i64 xs[j] ys[j] (isI64_eq h3)]
  by_cases e : xs[j] = ys[j]
  ·rw [show (xs[j] == ys[j]) = true by simpa using e]
   simp only [Bool.not_true, Bool.false_eq_true, if_false, ih, e]
   congr 1
   simp
  ·rw [show (xs[j] == ys[j]) = false by simpa using e]
   simp only [Bool.not_false, if_true, List.cons.injEq, e, false_and, decide_false]
   rfl
section
variable {P : Program} {L : Env} {w : World} {d : Option Nat} {T : TypeId} {pos : String} {af : Array Edge} {g : Option (Nat × Bool)}
theorem run_eqS {t k : TypeId} [c : IntsTy P t k] (xs ys : List Int) (hx : xs.length = k) (hy : ys.length = k) (w' : World) : (Op.equalIn 10000 t (.agg (xs.map (Value.int .i64)).toArray) (.agg (ys.map (Value.int .i64)).toArray)).run P w' = .ok (decide (xs = ys)) w' := by
 have hl : (P.fieldsOf t).toList.length = k := by have := congrArg List.length c.flds; simpa using this
 have h := run_eqFields_ints (P := P) (w := w') 9998 xs ys (P.fieldsOf t).toList 0 (by rw [c.flds, hl, List.range_eq_range']) (by omega) (by omega)
 rw [run_equalIn_struct w' 9999 t _ _ c.und c.stood]
 simpa using h
theorem st_neS {t k ty : TypeId} [c : IntsTy P t k] {x y : Operand} (xs ys : List Int) (hx : opv L x = some (.agg (xs.map (Value.int .i64)).toArray)) (hy : opv L y = some (.agg (ys.map (Value.int .i64)).toArray)) (h1 : Nat.beq xs.length k = true) (h2 : Nat.beq ys.length k = true) :
  St P ⟨d, .binOp .neq t x y ty, T, pos, af, g⟩ L w (.bool (!decide (xs = ys))) :=
 ⟨fun _ a ha w' _ => by
  have e := run_eqS (P := P) (t := t) xs ys (Nat.eq_of_beq_eq_true h1) (Nat.eq_of_beq_eq_true h2) w'
  have hb : (binOp .neq t (.agg (xs.map (Value.int .i64)).toArray) (.agg (ys.map (Value.int .i64)).toArray)).run P w' = .ok (.bool (!decide (xs = ys))) w' := by rw [run_neq_struct, e]; rfl
  have hg := run_eqGuard_agg (P := P) w' .neq t x y (xs.map (Value.int .i64)).toArray (ys.map (Value.int .i64)).toArray c.guard
  have e1 := ha.eval hx
  have e2 := ha.eval hy
  generalize (xs.map (Value.int .i64)).toArray = X at *
  generalize (ys.map (Value.int .i64)).toArray = Y at *
  simp [execOp, e1, e2, hg, hb]⟩
end
section
variable {P : Program} {n : Nat} {ops : Array Oper} {Q : Exit → Act → World → Prop} {rest : List Oper} {L : Env} {w : World} {pos : String} {af : Array Edge} {T : TypeId}
theorem SW.box1 {d : Nat} {t : TypeId} {x : Operand} {v : Value} (hx : opv L x = some v) (h1 : v.oneCell' = true) (hn : Nat.blt d n = true)
  (h : ∀ b w', Ext w w' → w.heap.size ≤ b → Blk w' b t [v] → SW P n ops (.eff Q) rest ((d, .pointer (some ⟨b, 0, none⟩)) :: L) w') : SW P n ops (.eff Q) (⟨some d, .box t x, T, pos, af, none⟩ :: rest) L w :=
 ⟨fun a ha => by
  have hcs : v.cells = #[v] := by cases v <;> first | rfl | simp [Value.oneCell'] at h1
  simp only [swp, wpList, Region.wanted, if_true]
  refine .inl ?_
  unfold Oper.wp
  have hr : (execOp a.eval ⟨some d, .box t x, T, pos, af, none⟩).run P w = .ok (.value (.pointer (some ⟨w.heap.size, 0, none⟩))) (w.alloc (.cells #[v] t)) := by
   simp [execOp, ha.eval hx, Instr.box, newVar, newRow, newObj, Sem.run, hcs]
  rw [hr, Oper.upon_value]
  exact (h _ _ (Ext.alloc w _) (Nat.le_refl _) (Blk.new w t [v])).out _ (ha.put hn _)⟩
end
theorem Ext.own {base w w' : World} {b : Nat} (h : Ext base w) (hb : base.heap.size ≤ b) (hg : w.grownBy w' (some b)) : Ext base w' := ext_grown h hg (Nat.le_refl _) (fun k e => by cases e; exact hb)
end Go.Proofs.YtfommgdbahemfaaDoor
namespace Go.Proofs.YtfommgdbahemfaaDoor
instance : OneTy Tryd.prog 3 := ⟨by kernel_rfl, by kernel_rfl⟩
instance : ElemTy Tryd.prog 3 (.int .i64 0) 1 8 := ⟨by kernel_rfl, by kernel_rfl, by decide⟩
instance : OneTy Tryd.prog 4 := ⟨by kernel_rfl, by kernel_rfl⟩
instance : OneTy Tryd.prog 22 := ⟨by kernel_rfl, by kernel_rfl⟩
instance : ElemTy Tryd.prog 22 (.slice none 0 0) 1 24 := ⟨by kernel_rfl, by kernel_rfl, by decide⟩
instance : SliceTy Tryd.prog 22 55 3 := ⟨by kernel_rfl, by kernel_rfl⟩
instance : OneTy Tryd.prog 23 := ⟨by kernel_rfl, by kernel_rfl⟩
instance : SliceTy Tryd.prog 23 3 1 := ⟨by kernel_rfl, by kernel_rfl⟩
instance : ElemTy Tryd.prog 25 (.agg #[.int .i64 0, .int .i64 0, .slice none 0 0, .slice none 0 0]) 4 64 := ⟨by kernel_rfl, by kernel_rfl, by decide⟩
instance : AggTy Tryd.prog 25 4 := ⟨by kernel_rfl, by kernel_rfl⟩
instance : BuildTy Tryd.prog 25 [(0, 1), (1, 1), (2, 1), (3, 1)] [.int .i64 0, .int .i64 0, .slice none 0 0, .slice none 0 0] := ⟨by kernel_rfl, by kernel_rfl⟩
instance : FieldOf Tryd.prog 25 0 0 3 := ⟨by kernel_rfl, by kernel_rfl⟩
instance : FieldOf Tryd.prog 25 1 1 3 := ⟨by kernel_rfl, by kernel_rfl⟩
instance : FieldOf Tryd.prog 25 2 2 22 := ⟨by kernel_rfl, by kernel_rfl⟩
instance : FieldOf Tryd.prog 25 3 3 23 := ⟨by kernel_rfl, by kernel_rfl⟩
instance : OneTy Tryd.prog 32 := ⟨by kernel_rfl, by kernel_rfl⟩
instance : SliceTy Tryd.prog 32 25 4 := ⟨by kernel_rfl, by kernel_rfl⟩
instance : OneTy Tryd.prog 33 := ⟨by kernel_rfl, by kernel_rfl⟩
instance : SliceTy Tryd.prog 33 84 4 := ⟨by kernel_rfl, by kernel_rfl⟩
instance : ElemTy Tryd.prog 35 (.agg #[.slice none 0 0, .slice none 0 0, .int .i64 0, .slice none 0 0, .slice none 0 0]) 5 104 := ⟨by kernel_rfl, by kernel_rfl, by decide⟩
instance : AggTy Tryd.prog 35 5 := ⟨by kernel_rfl, by kernel_rfl⟩
instance : BuildTy Tryd.prog 35 [(0, 1), (1, 1), (2, 1), (3, 1), (4, 1)] [.slice none 0 0, .slice none 0 0, .int .i64 0, .slice none 0 0, .slice none 0 0] := ⟨by kernel_rfl, by kernel_rfl⟩
instance : FieldOf Tryd.prog 35 0 0 32 := ⟨by kernel_rfl, by kernel_rfl⟩
instance : FieldOf Tryd.prog 35 1 1 23 := ⟨by kernel_rfl, by kernel_rfl⟩
instance : FieldOf Tryd.prog 35 2 2 3 := ⟨by kernel_rfl, by kernel_rfl⟩
instance : FieldOf Tryd.prog 35 3 3 33 := ⟨by kernel_rfl, by kernel_rfl⟩
instance : FieldOf Tryd.prog 35 4 4 22 := ⟨by kernel_rfl, by kernel_rfl⟩
instance : ArrTy Tryd.prog 51 2 3 1 := ⟨by kernel_rfl, by kernel_rfl⟩
instance : AggTy Tryd.prog 51 2 := ⟨by kernel_rfl, by kernel_rfl⟩
instance : ArrTy Tryd.prog 52 3 51 2 := ⟨by kernel_rfl, by kernel_rfl⟩
instance : ElemTy Tryd.prog 55 (.agg #[.int .i64 0, .int .i64 0, .int .i64 0]) 3 24 := ⟨by kernel_rfl, by kernel_rfl, by decide⟩
instance : AggTy Tryd.prog 55 3 := ⟨by kernel_rfl, by kernel_rfl⟩
instance : BuildTy Tryd.prog 55 [(0, 1), (1, 1), (2, 1)] [.int .i64 0, .int .i64 0, .int .i64 0] := ⟨by kernel_rfl, by kernel_rfl⟩
instance : IntsTy Tryd.prog 55 3 := ⟨by kernel_rfl, by kernel_rfl, by kernel_rfl, by kernel_rfl⟩
instance : FieldOf Tryd.prog 55 0 0 3 := ⟨by kernel_rfl, by kernel_rfl⟩
instance : FieldOf Tryd.prog 55 1 1 3 := ⟨by kernel_rfl, by kernel_rfl⟩
instance : FieldOf Tryd.prog 55 2 2 3 := ⟨by kernel_rfl, by kernel_rfl⟩
instance : ElemTy Tryd.prog 84 (.agg #[.int .i64 0, .int .i64 0, .int .i64 0, .slice none 0 0]) 4 48 := ⟨by kernel_rfl, by kernel_rfl, by decide⟩
instance : AggTy Tryd.prog 84 4 := ⟨by kernel_rfl, by kernel_rfl⟩
instance : BuildTy Tryd.prog 84 [(0, 1), (1, 1), (2, 1), (3, 1)] [.int .i64 0, .int .i64 0, .int .i64 0, .slice none 0 0] := ⟨by kernel_rfl, by kernel_rfl⟩
instance : FieldOf Tryd.prog 84 0 0 3 := ⟨by kernel_rfl, by kernel_rfl⟩
instance : FieldOf Tryd.prog 84 1 1 3 := ⟨by kernel_rfl, by kernel_rfl⟩
instance : FieldOf Tryd.prog 84 2 2 3 := ⟨by kernel_rfl, by kernel_rfl⟩
instance : FieldOf Tryd.prog 84 3 3 23 := ⟨by kernel_rfl, by kernel_rfl⟩
instance : ArrTy Tryd.prog 123 256 4 1 := ⟨by kernel_rfl, by kernel_rfl⟩
instance : BuildTy Tryd.prog 125 [(0, 256), (256, 1)] [.bool false, .bool false, .bool false, .bool false, .bool false, .bool false, .bool false, .bool false, .bool false, .bool false, .bool false, .bool false, .bool false, .bool false, .bool false, .bool false, .bool false, .bool false, .bool false, .bool false, .bool false, .bool false, .bool false, .bool false, .bool false, .bool false, .bool false, .bool false, .bool false, .bool false, .bool false, .bool false, .bool false, .bool false, .bool false, .bool false, .bool false, .bool false, .bool false, .bool false, .bool false, .bool false, .bool false, .bool false, .bool false, .bool false, .bool false, .bool false, .bool false, .bool false, .bool false, .bool false, .bool false, .bool false, .bool false, .bool false, .bool false, .bool false, .bool false, .bool false, .bool false, .bool false, .bool false, .bool false, .bool false, .bool false, .bool false, .bool false, .bool false, .bool false, .bool false, .bool false, .bool false, .bool false, .bool false, .bool false, .bool false, .bool false, .bool false, .bool false, .bool false, .bool false, .bool false, .bool false, .bool false, .bool false, .bool false, .bool false, .bool false, .bool false, .bool false, .bool false, .bool false, .bool false, .bool false, .bool false, .bool false, .bool false, .bool false, .bool false, .bool false, .bool false, .bool false, .bool false, .bool false, .bool false, .bool false, .bool false, .bool false, .bool false, .bool false, .bool false, .bool false, .bool false, .bool false, .bool false, .bool false, .bool false, .bool false, .bool false, .bool false, .bool false, .bool false, .bool false, .bool false, .bool false, .bool false, .bool false, .bool false, .bool false, .bool false, .bool false, .bool false, .bool false, .bool false, .bool false, .bool false, .bool false, .bool false, .bool false, .bool false, .bool false, .bool false, .bool false, .bool false, .bool false, .bool false, .bool false, .bool false, .bool false, .bool false, .bool false, .bool false, .bool false, .bool false, .bool false, .bool false, .bool false, .bool false, .bool false, .bool false, .bool false, .bool false, .bool false, .bool false, .bool false, .bool false, .bool false, .bool false, .bool false, .bool false, .bool false, .bool false, .bool false, .bool false, .bool false, .bool false, .bool false, .bool false, .bool false, .bool false, .bool false, .bool false, .bool false, .bool false, .bool false, .bool false, .bool false, .bool false, .bool false, .bool false, .bool false, .bool false, .bool false, .bool false, .bool false, .bool false, .bool false, .bool false, .bool false, .bool false, .bool false, .bool false, .bool false, .bool false, .bool false, .bool false, .bool false, .bool false, .bool false, .bool false, .bool false, .bool false, .bool false, .bool false, .bool false, .bool false, .bool false, .bool false, .bool false, .bool false, .bool false, .bool false, .bool false, .bool false, .bool false, .bool false, .bool false, .bool false, .bool false, .bool false, .bool false, .bool false, .bool false, .bool false, .bool false, .bool false, .bool false, .bool false, .bool false, .bool false, .bool false, .bool false, .bool false, .bool false, .bool false, .bool false, .bool false, .bool false, .bool false, .bool false, .bool false, .bool false, .bool false, .bool false, .bool false, .bool false] := ⟨by kernel_rfl, by kernel_rfl⟩
instance : FieldOf Tryd.prog 125 0 0 123 := ⟨by kernel_rfl, by kernel_rfl⟩
instance : FieldOf Tryd.prog 125 1 256 4 := ⟨by kernel_rfl, by kernel_rfl⟩
instance : Body Tryd.prog 6 := body_of Tryd.func6 (by kernel_rfl) (by kernel_rfl)
instance : Body Tryd.prog 7 := body_of Tryd.func7 (by kernel_rfl) (by kernel_rfl)
instance : Body Tryd.prog 8 := body_of Tryd.func8 (by kernel_rfl) (by kernel_rfl)
instance : Body Tryd.prog 9 := body_of Tryd.func9 (by kernel_rfl) (by kernel_rfl)
instance : Body Tryd.prog 12 := body_of Tryd.func12 (by kernel_rfl) (by kernel_rfl)
instance : Body Tryd.prog 13 := body_of Tryd.func13 (by kernel_rfl) (by kernel_rfl)
instance : Body Tryd.prog 14 := body_of Tryd.func14 (by kernel_rfl) (by kernel_rfl)
instance : Body Tryd.prog 15 := body_of Tryd.func15 (by kernel_rfl) (by kernel_rfl)
instance : Body Tryd.prog 16 := body_of Tryd.func16 (by kernel_rfl) (by kernel_rfl)
instance : Body Tryd.prog 17 := body_of Tryd.func17 (by kernel_rfl) (by kernel_rfl)
instance : Body Tryd.prog 18 := body_of Tryd.func18 (by kernel_rfl) (by kernel_rfl)
instance : Body Tryd.prog 19 := body_of Tryd.func19 (by kernel_rfl) (by kernel_rfl)
instance : Body Tryd.prog 20 := body_of Tryd.func20 (by kernel_rfl) (by kernel_rfl)
instance : Body Tryd.prog 21 := body_of Tryd.func21 (by kernel_rfl) (by kernel_rfl)
instance : Body Tryd.prog 22 := body_of Tryd.func22 (by kernel_rfl) (by kernel_rfl)
instance : Body Tryd.prog 23 := body_of Tryd.func23 (by kernel_rfl) (by kernel_rfl)
instance : Body Tryd.prog 24 := body_of Tryd.func24 (by kernel_rfl) (by kernel_rfl)
instance : Body Tryd.prog 25 := body_of Tryd.func25 (by kernel_rfl) (by kernel_rfl)
instance : Body Tryd.prog 26 := body_of Tryd.func26 (by kernel_rfl) (by kernel_rfl)
instance : Body Tryd.prog 27 := body_of Tryd.func27 (by kernel_rfl) (by kernel_rfl)
instance : Body Tryd.prog 28 := body_of Tryd.func28 (by kernel_rfl) (by kernel_rfl)
instance : Body Tryd.prog 29 := body_of Tryd.func29 (by kernel_rfl) (by kernel_rfl)
instance : Body Tryd.prog 30 := body_of Tryd.func30 (by kernel_rfl) (by kernel_rfl)
instance : Body Tryd.prog 31 := body_of Tryd.func31 (by kernel_rfl) (by kernel_rfl)
instance : Body Tryd.prog 32 := body_of Tryd.func32 (by kernel_rfl) (by kernel_rfl)
instance : Body Tryd.prog 33 := body_of Tryd.func33 (by kernel_rfl) (by kernel_rfl)
instance : Body Tryd.prog 34 := body_of Tryd.func34 (by kernel_rfl) (by kernel_rfl)
instance : Body Tryd.prog 42 := body_of Tryd.func42 (by kernel_rfl) (by kernel_rfl)
instance : Body Tryd.prog 43 := body_of Tryd.func43 (by kernel_rfl) (by kernel_rfl)
instance : Body Tryd.prog 44 := body_of Tryd.func44 (by kernel_rfl) (by kernel_rfl)
instance : Body Tryd.prog 45 := body_of Tryd.func45 (by kernel_rfl) (by kernel_rfl)
instance : Body Tryd.prog 46 := body_of Tryd.func46 (by kernel_rfl) (by kernel_rfl)
instance : Body Tryd.prog 47 := body_of Tryd.func47 (by kernel_rfl) (by kernel_rfl)
instance : Body Tryd.prog 48 := body_of Tryd.func48 (by kernel_rfl) (by kernel_rfl)
instance : Body Tryd.prog 49 := body_of Tryd.func49 (by kernel_rfl) (by kernel_rfl)
instance : Body Tryd.prog 50 := body_of Tryd.func50 (by kernel_rfl) (by kernel_rfl)
instance : Body Tryd.prog 51 := body_of Tryd.func51 (by kernel_rfl) (by kernel_rfl)
instance : Body Tryd.prog 52 := body_of Tryd.func52 (by kernel_rfl) (by kernel_rfl)
instance : Body Tryd.prog 53 := body_of Tryd.func53 (by kernel_rfl) (by kernel_rfl)
instance : Body Tryd.prog 54 := body_of Tryd.func54 (by kernel_rfl) (by kernel_rfl)
instance : Body Tryd.prog 55 := body_of Tryd.func55 (by kernel_rfl) (by kernel_rfl)
instance : Body Tryd.prog 56 := body_of Tryd.func56 (by kernel_rfl) (by kernel_rfl)
instance : Body Tryd.prog 57 := body_of Tryd.func57 (by kernel_rfl) (by kernel_rfl)
instance : Body Tryd.prog 58 := body_of Tryd.func58 (by kernel_rfl) (by kernel_rfl)
instance : Body Tryd.prog 59 := body_of Tryd.func59 (by kernel_rfl) (by kernel_rfl)
instance : Body Tryd.prog 60 := body_of Tryd.func60 (by kernel_rfl) (by kernel_rfl)
instance : Body Tryd.prog 61 := body_of Tryd.func61 (by kernel_rfl) (by kernel_rfl)
instance : Body Tryd.prog 64 := body_of Tryd.func64 (by kernel_rfl) (by kernel_rfl)
instance : Body Tryd.prog 65 := body_of Tryd.func65 (by kernel_rfl) (by kernel_rfl)
instance : Body Tryd.prog 87 := body_of Tryd.func87 (by kernel_rfl) (by kernel_rfl)
instance : Body Tryd.prog 88 := body_of Tryd.func88 (by kernel_rfl) (by kernel_rfl)
instance : Body Tryd.prog 89 := body_of Tryd.func89 (by kernel_rfl) (by kernel_rfl)
instance : Body Tryd.prog 90 := body_of Tryd.func90 (by kernel_rfl) (by kernel_rfl)
instance : Body Tryd.prog 91 := body_of Tryd.func91 (by kernel_rfl) (by kernel_rfl)
instance : Body Tryd.prog 92 := body_of Tryd.func92 (by kernel_rfl) (by kernel_rfl)
instance : Body Tryd.prog 93 := body_of Tryd.func93 (by kernel_rfl) (by kernel_rfl)
instance : Body Tryd.prog 94 := body_of Tryd.func94 (by kernel_rfl) (by kernel_rfl)
instance : Body Tryd.prog 95 := body_of Tryd.func95 (by kernel_rfl) (by kernel_rfl)
instance : Body Tryd.prog 96 := body_of Tryd.func96 (by kernel_rfl) (by kernel_rfl)
instance : Body Tryd.prog 97 := body_of Tryd.func97 (by kernel_rfl) (by kernel_rfl)
instance : Body Tryd.prog 98 := body_of Tryd.func98 (by kernel_rfl) (by kernel_rfl)
instance : Body Tryd.prog 99 := body_of Tryd.func99 (by kernel_rfl) (by kernel_rfl)
instance : Body Tryd.prog 100 := body_of Tryd.func100 (by kernel_rfl) (by kernel_rfl)
instance : Body Tryd.prog 101 := body_of Tryd.func101 (by kernel_rfl) (by kernel_rfl)
instance : Body Tryd.prog 119 := body_of Tryd.func119 (by kernel_rfl) (by kernel_rfl)
instance : Body Tryd.prog 120 := body_of Tryd.func120 (by kernel_rfl) (by kernel_rfl)
instance : Body Tryd.prog 121 := body_of Tryd.func121 (by kernel_rfl) (by kernel_rfl)
instance : Body Tryd.prog 122 := body_of Tryd.func122 (by kernel_rfl) (by kernel_rfl)
instance : Body Tryd.prog 123 := body_of Tryd.func123 (by kernel_rfl) (by kernel_rfl)
instance : Body Tryd.prog 124 := body_of Tryd.func124 (by kernel_rfl) (by kernel_rfl)
instance : Body Tryd.prog 125 := body_of Tryd.func125 (by kernel_rfl) (by kernel_rfl)
instance : Body Tryd.prog 126 := body_of Tryd.func126 (by kernel_rfl) (by kernel_rfl)
instance : Body Tryd.prog 127 := body_of Tryd.func127 (by kernel_rfl) (by kernel_rfl)
instance : Body Tryd.prog 128 := body_of Tryd.func128 (by kernel_rfl) (by kernel_rfl)
instance : Body Tryd.prog 129 := body_of Tryd.func129 (by kernel_rfl) (by kernel_rfl)
instance : Body Tryd.prog 130 := body_of Tryd.func130 (by kernel_rfl) (by kernel_rfl)
instance : Body Tryd.prog 137 := body_of Tryd.func137 (by kernel_rfl) (by kernel_rfl)
instance : Body Tryd.prog 138 := body_of Tryd.func138 (by kernel_rfl) (by kernel_rfl)
instance : Body Tryd.prog 139 := body_of Tryd.func139 (by kernel_rfl) (by kernel_rfl)
theorem mixed : Tryd.prog.follows .mixedOrders = true := by kernel_rfl
end Go.Proofs.YtfommgdbahemfaaDoor
namespace Go.Proofs.YtfommgdbahemfaaDoor
structure Block where
 At : Int
 Order : Int
 Ty : Int
 deriving DecidableEq
structure Zone where
 From : Int
 To : Int
 Free : List Block
 Types : List Int
 deriving DecidableEq
structure PList where
 Cpu : Int
 Zone : Int
 Ty : Int
 Pages : List Int
structure Heap where
 Zones : List Zone
 Mins : List Int
 Cpus : Int
 Lists : List PList
 Live : List Block
end Go.Proofs.YtfommgdbahemfaaDoor
set_option linter.unusedVariables false
namespace Go.Proofs.YtfommgdbahemfaaDoor
open Go.RowKit
theorem In_ans (x lo hi : Int) (w : World) : Ans Tryd.prog 27 [.int .i64 x, .int .i64 lo, .int .i64 hi] w fun v _ => v = .bool (decide (lo ≤ x ∧ x ≤ hi)) := by
 refine ans_of Tryd.func27 rfl Tryd.ntmps27 rfl ?_
 repeat' (first | (show CW _ _ _ _ _ _; first | refine CW.seq ?_ | refine CW.region ?_ | refine CW.ret ?_) | (show Post _ _ _ _ _; refine Post.seq ?_) | refine SW.nil ?_ | (show SW _ _ _ _ (⟨_, _, _, _, _, some _⟩ :: _) _ _; first | refine SW.want_t rfl rfl (by with_reducible rfl) ?_ | refine SW.skip_t rfl rfl (by with_reducible rfl) rfl ?_ | refine SW.splitd rfl rfl rfl (fun h => ?_) (fun h => ?_)) | refine SW.pure rfl rfl ?_)
 all_goals refine Post.ret1 rfl rfl ⟨_, rfl, Ext.refl _, ?_⟩
 all_goals simp [*]
theorem sameInts_ans (A B : Option Addr) (n m c d : Nat) (xs ys : List Int) (w : World) (hx : Sl w 1 encI A n xs) (hy : Sl w 1 encI B m ys) (hn : n ≤ 2305843009213693952) :
  Ans Tryd.prog 34 [.slice A n c, .slice B m d] w fun v _ => v = .bool (decide (xs = ys)) := by
 refine ans_of Tryd.func34 rfl Tryd.ntmps34 rfl ?_
 have hl := hx.len
 have hl' := hy.len
 have hA := hx.base
 have hB := hy.base
 have hw := Ext.refl w
 repeat' (first | (show CW _ _ _ _ _ _; first | refine CW.seq ?_ | refine CW.region ?_ | refine CW.block ?_ | refine CW.condn rfl (fun h => ?_) (fun h => ?_) | refine CW.skip ?_ | refine CW.ret ?_) | (show Post _ _ _ _ _; first | refine Post.seq ?_ | refine Post.seq_ret ?_) | refine SW.nil ?_ | refine SW.pure rfl rfl ?_ | (show SW _ _ _ _ (⟨_, Op.call ⟨.builtin .len, _, _⟩, _, _, _, none⟩ :: _) _ _; refine SW.st (st_len rfl) rfl ?_))
 ·refine Post.ret1 rfl rfl ⟨_, rfl, hw, ?_⟩
  have : xs ≠ ys := fun e => by subst e; omega
  simp [this]
 ·have hnm : n = m := by omega
  refine CW.loop (fun k : Nat => [(0, .slice A n c), (1, .slice B m d), (5, .int .i64 (k : Int))])
   (fun k w' => k ≤ n ∧ Ext w w' ∧ ∀ j (h1 : j < xs.length) (h2 : j < ys.length), j < k → xs[j] = ys[j]) (fun k => n - k) 0 ⟨rfl, rfl, rfl, trivial⟩ ⟨by omega, hw, fun j _ _ h => by omega⟩ ?_
  clear hw
  rintro k w' ⟨hk, hw, heq⟩
  by_cases hkn : k < n
  ·repeat' (first | (show CW _ _ _ _ _ _; first | refine CW.seq ?_ | refine CW.region ?_ | refine CW.block ?_ | refine CW.condd_t rfl (by omega) ?_ | refine CW.condn rfl (fun h => ?_) (fun h => ?_) | refine CW.skip ?_ | refine CW.ret ?_ | (apply CW.quiet1 mixed; (· kernel_rfl); rotate_left; intro w1 hw1; replace hw := Ext.trans hw hw1; clear hw1; rotate_right)) | (show Post _ _ _ _ _; first | refine Post.seq ?_ | refine Post.seq_ret ?_ | refine Post.blk ?_ | refine Post.blk_ret ?_ | refine Post.again_ret ?_) | refine SW.nil ?_ | refine SW.pure rfl rfl ?_ | (show SW _ _ _ _ (⟨_, Op.binOp _ _ _ _ _, _, _, _, none⟩ :: _) _ _; refine SW.st (st_add rfl rfl (by omega) (by omega)) rfl ?_) | (show SW _ _ _ _ (⟨_, Op.indexAddr _ _ _, _, _, _, none⟩ :: _) _ _; refine SW.st (st_indexN rfl rfl (by assumption) (by omega)) rfl ?_) | (show SW _ _ _ _ (⟨_, Op.call ⟨.builtin .len, _, _⟩, _, _, _, none⟩ :: _) _ _; refine SW.st (st_len rfl) rfl ?_) | (show SW _ _ _ _ (⟨_, Op.load _ _, _, _, _, none⟩ :: _) _ _; first | refine SW.st (st_loadx hw rfl (hx.one hkn rfl)) rfl ?_ | refine SW.st (st_loadx hw rfl (hy.one (hnm ▸ hkn) rfl)) rfl ?_) | exact SW.qnil rfl)
   ·refine Post.ret1 rfl rfl ⟨_, rfl, hw, ?_⟩
    have : xs ≠ ys := fun e => by subst e; exact h rfl
    simp [this]
   ·refine Post.again (k + 1) ⟨rfl, rfl, rfl, trivial⟩ (by omega) ⟨by omega, hw, fun j h1 h2 hj => ?_⟩
    by_cases hjk : j = k
    ·subst hjk; assumption
    ·exact heq j h1 h2 (by omega)
  ·repeat' (first | (show CW _ _ _ _ _ _; first | refine CW.seq ?_ | refine CW.region ?_ | refine CW.condd_f rfl (by omega) ?_ | refine CW.ret ?_ | refine CW.exit ?_) | (show Post _ _ _ _ _; first | refine Post.seq ?_ | refine Post.seq_exit ?_ | refine Post.hit ?_ | refine Post.again_exit ?_) | refine SW.nil ?_ | refine SW.pure rfl rfl ?_ | (show SW _ _ _ _ (⟨_, Op.call ⟨.builtin .len, _, _⟩, _, _, _, none⟩ :: _) _ _; refine SW.st (st_len rfl) rfl ?_))
   refine Post.ret1 rfl rfl ⟨_, rfl, hw, ?_⟩
   have : xs = ys := List.ext_getElem (by omega) fun j h1 h2 => heq j h1 h2 (by omega)
   simp [this]
end Go.Proofs.YtfommgdbahemfaaDoor
set_option linter.unusedVariables false
namespace Go.Proofs.YtfommgdbahemfaaDoor
open Go.RowKit
def Copied (w : World) (e sz : Nat) {α : Type} (enc : α → List Value) (n : Nat) (l : List α) : Value → World → Prop := fun v w' => ∃ A c, v = .slice A n c ∧ Own w' w.heap.size e sz enc A n c l
theorem words_ans (A : Option Addr) (n c : Nat) (l : List Int) (w : World) (hl : Sl w 1 encI A n l) (hn : n * 8 ≤ 140737488355328) : Ans Tryd.prog 17 [.slice A n c] w (Copied w 3 1 encI n l) := by
 refine ans_of Tryd.func17 rfl Tryd.ntmps17 rfl ?_
 have hw := Ext.refl w
 have hA := hl.base
 repeat' (first | (show CW _ _ _ _ _ _; first | refine CW.seq ?_ | refine CW.region ?_ | refine CW.block ?_) | (show Post _ _ _ _ _; refine Post.seq ?_) | refine SW.nil ?_ | refine SW.pure rfl rfl ?_)
 refine CW.loop (fun s : Nat × Option Addr × Nat => [(0, .slice A n c), (3, .slice s.2.1 s.1 s.2.2), (4, .int .i64 (s.1 : Int))])
  (fun s w' => s.1 ≤ n ∧ Ext w w' ∧ Own w' w.heap.size 3 1 encI s.2.1 s.1 s.2.2 (l.take s.1)) (fun s => n - s.1) (0, none, 0) ⟨rfl, rfl, rfl, trivial⟩ ⟨by omega, hw, by simpa using Own.nil_ _ _ _ _ _ _⟩ ?_
 clear hw
 rintro ⟨k, A1, c1⟩ w' ⟨hk, hw, hO⟩
 simp only at hk hO ⊢
 by_cases hkn : k < n
 ·repeat' (first | (show CW _ _ _ _ _ _; first | refine CW.seq ?_ | refine CW.region ?_ | refine CW.block ?_ | refine CW.condd_t rfl (by omega) ?_ | refine CW.skip ?_) | (show Post _ _ _ _ _; refine Post.seq ?_) | refine SW.nil ?_ | refine SW.pure rfl rfl ?_ | (show SW _ _ _ _ (⟨_, Op.indexAddr _ _ _, _, _, _, none⟩ :: _) _ _; refine SW.st (st_indexN rfl rfl (by assumption) (by omega)) rfl ?_) | (show SW _ _ _ _ (⟨_, Op.call ⟨.builtin .len, _, _⟩, _, _, _, none⟩ :: _) _ _; refine SW.st (st_len rfl) rfl ?_) | (show SW _ _ _ _ (⟨_, Op.load _ _, _, _, _, none⟩ :: _) _ _; refine SW.st (st_loadx hw rfl (hl.one hkn rfl)) rfl ?_))
  refine SW.build1 rfl rfl rfl rfl rfl fun b w1 hw1 hb hB => ?_
  replace hw := Ext.trans hw hw1
  replace hO := hO.ext hw1
  refine SW.append hO (Blk.sl1 (enc := encI) hB) hw.size rfl rfl rfl (by omega) (by omega) fun A2 c2 w2 hO1 hg => ?_
  replace hw := ext_grown hw hg (Nat.le_refl _) hO.row_ge
  repeat' (first | (show CW _ _ _ _ _ _; refine CW.region ?_) | (show Post _ _ _ _ _; first | refine Post.seq ?_ | refine Post.blk ?_) | refine SW.nil ?_ | refine SW.pure rfl rfl ?_ | (show SW _ _ _ _ (⟨_, Op.binOp _ _ _ _ _, _, _, _, none⟩ :: _) _ _; refine SW.st (st_add rfl rfl (by omega) (by omega)) rfl ?_))
  refine Post.again (k + 1, A2, c2) ⟨rfl, rfl, rfl, trivial⟩ (by simp only; omega) ⟨by simp only; omega, hw, ?_⟩
  rw [List.take_succ_eq_append_getElem (hl.lt hkn)]
  exact hO1
 ·repeat' (first | (show CW _ _ _ _ _ _; first | refine CW.seq ?_ | refine CW.region ?_ | refine CW.condd_f rfl (by omega) ?_ | refine CW.ret ?_ | refine CW.exit ?_) | (show Post _ _ _ _ _; first | refine Post.seq ?_ | refine Post.seq_exit ?_ | refine Post.hit ?_ | refine Post.again_exit ?_) | refine SW.nil ?_ | refine SW.pure rfl rfl ?_ | (show SW _ _ _ _ (⟨_, Op.call ⟨.builtin .len, _, _⟩, _, _, _, none⟩ :: _) _ _; refine SW.st (st_len rfl) rfl ?_))
  obtain rfl : k = n := by omega
  refine Post.ret1 rfl rfl ⟨_, rfl, hw, A1, c1, rfl, ?_⟩
  rwa [List.take_of_length_le (by have := hl.len; omega)] at hO
theorem CloneInt_ans (A : Option Addr) (n c : Nat) (l : List Int) (w : World) (hl : Sl w 1 encI A n l) (hn : n * 8 ≤ 140737488355328) : Ans Tryd.prog 57 [.slice A n c] w (Copied w 3 1 encI n l) := by
 refine ans_of Tryd.func57 rfl Tryd.ntmps57 rfl ?_
 have hw := Ext.refl w
 repeat' (first | (show CW _ _ _ _ _ _; first | refine CW.seq ?_ | refine CW.region ?_) | (show Post _ _ _ _ _; refine Post.seq ?_) | refine SW.nil ?_ | refine SW.pure rfl rfl ?_)
 refine SW.st (st_eqnil rfl rfl) rfl ?_
 repeat' (first | (show CW _ _ _ _ _ _; first | refine CW.seq ?_ | refine CW.region ?_ | refine CW.cond rfl (fun h => ?_) (fun h => ?_) | refine CW.skip ?_ | refine CW.ret ?_) | (show Post _ _ _ _ _; first | refine Post.seq ?_ | refine Post.seq_ret ?_) | refine SW.nil ?_ | refine SW.pure rfl rfl ?_)
 ·have hn0 : n = 0 := by
   rcases Nat.eq_zero_or_pos n with h0 | h0
   ·exact h0
   ·have := hl.base h0; simp_all
  subst hn0
  have : l = [] := List.eq_nil_of_length_eq_zero hl.len
  subst this
  exact Post.ret1 rfl rfl ⟨_, rfl, hw, none, 0, rfl, Own.nil_ _ _ _ _ _ _⟩
 ·refine SW.build0 rfl fun b w1 hw1 hb => ?_
  replace hw := Ext.trans hw hw1
  repeat' (refine SW.pure rfl rfl ?_)
  refine SW.appendR (Nat.zero_add n) (List.nil_append l) (Own.nil_ w1 w.heap.size _ _ encI (some ⟨b, 0, none⟩)) (hl.ext hw) hw.size rfl rfl rfl (by omega) (by omega) fun A2 c2 w2 hO hg => ?_
  replace hw := ext_grown hw hg (Nat.le_refl _) (by simp [ownB])
  repeat' (first | (show CW _ _ _ _ _ _; refine CW.ret ?_) | (show Post _ _ _ _ _; refine Post.seq ?_) | refine SW.nil ?_ | refine SW.pure rfl rfl ?_)
  exact Post.ret1 rfl rfl ⟨_, rfl, hw, A2, c2, rfl, hO⟩
end Go.Proofs.YtfommgdbahemfaaDoor
set_option linter.unusedVariables false
namespace Go.Proofs.YtfommgdbahemfaaDoor
open Go.RowKit
end Go.Proofs.YtfommgdbahemfaaDoor
set_option linter.unusedVariables false
namespace Go.Proofs.YtfommgdbahemfaaDoor
open Go.RowKit
end Go.Proofs.YtfommgdbahemfaaDoor
set_option linter.unusedVariables false
namespace Go.Proofs.YtfommgdbahemfaaDoor
open Go.RowKit
def encBk (b : Block) : List Value := [.int .i64 b.At, .int .i64 b.Order, .int .i64 b.Ty]
instance : Enc encBk 3 := ⟨fun _ => rfl, fun r u hu => by simp [encBk] at hu; rcases hu with rfl | rfl | rfl <;> rfl⟩
def Block.nums (r : Block) : List Int := [r.At, r.Order, r.Ty]
theorem Block.nums_inj {r s : Block} : r.nums = s.nums ↔ r = s := by cases r; cases s; simp [Block.nums]
theorem CloneBlock_ans (A : Option Addr) (n c : Nat) (l : List Block) (w : World) (hl : Sl w 3 encBk A n l) (hn : n * 24 ≤ 140737488355328) : Ans Tryd.prog 56 [.slice A n c] w (Copied w 55 3 encBk n l) := by
 refine ans_of Tryd.func56 rfl Tryd.ntmps56 rfl ?_
 have hw := Ext.refl w
 repeat' (first | (show CW _ _ _ _ _ _; first | refine CW.seq ?_ | refine CW.region ?_) | (show Post _ _ _ _ _; refine Post.seq ?_) | refine SW.nil ?_ | refine SW.pure rfl rfl ?_)
 refine SW.st (st_eqnil rfl rfl) rfl ?_
 repeat' (first | (show CW _ _ _ _ _ _; first | refine CW.seq ?_ | refine CW.region ?_ | refine CW.cond rfl (fun h => ?_) (fun h => ?_) | refine CW.skip ?_ | refine CW.ret ?_) | (show Post _ _ _ _ _; first | refine Post.seq ?_ | refine Post.seq_ret ?_) | refine SW.nil ?_ | refine SW.pure rfl rfl ?_)
 ·have hn0 : n = 0 := by
   rcases Nat.eq_zero_or_pos n with h0 | h0
   ·exact h0
   ·have := hl.base h0; simp_all
  subst hn0
  have : l = [] := List.eq_nil_of_length_eq_zero hl.len
  subst this
  exact Post.ret1 rfl rfl ⟨_, rfl, hw, none, 0, rfl, Own.nil_ _ _ _ _ _ _⟩
 ·refine SW.build0 rfl fun b w1 hw1 hb => ?_
  replace hw := Ext.trans hw hw1
  repeat' (refine SW.pure rfl rfl ?_)
  refine SW.appendR (Nat.zero_add n) (List.nil_append l) (Own.nil_ w1 w.heap.size _ _ encBk (some ⟨b, 0, none⟩)) (hl.ext hw) hw.size rfl rfl rfl (by omega) (by omega) fun A2 c2 w2 hO hg => ?_
  replace hw := ext_grown hw hg (Nat.le_refl _) (by simp [ownB])
  repeat' (first | (show CW _ _ _ _ _ _; refine CW.ret ?_) | (show Post _ _ _ _ _; refine Post.seq ?_) | refine SW.nil ?_ | refine SW.pure rfl rfl ?_)
  exact Post.ret1 rfl rfl ⟨_, rfl, hw, A2, c2, rfl, hO⟩
theorem blocks_ans (A : Option Addr) (n c : Nat) (l : List Block) (w : World) (hl : Sl w 3 encBk A n l) (hn : n * 24 ≤ 140737488355328) : Ans Tryd.prog 16 [.slice A n c] w (Copied w 55 3 encBk n l) := by
 refine ans_of Tryd.func16 rfl Tryd.ntmps16 rfl ?_
 have hw := Ext.refl w
 have hA := hl.base
 repeat' (first | (show CW _ _ _ _ _ _; first | refine CW.seq ?_ | refine CW.region ?_ | refine CW.block ?_) | (show Post _ _ _ _ _; refine Post.seq ?_) | refine SW.nil ?_ | refine SW.pure rfl rfl ?_)
 refine CW.loop (fun s : Nat × Option Addr × Nat => [(0, .slice A n c), (3, .slice s.2.1 s.1 s.2.2), (4, .int .i64 (s.1 : Int))])
  (fun s w' => s.1 ≤ n ∧ Ext w w' ∧ Own w' w.heap.size 55 3 encBk s.2.1 s.1 s.2.2 (l.take s.1)) (fun s => n - s.1) (0, none, 0) ⟨rfl, rfl, rfl, trivial⟩ ⟨by omega, hw, by simpa using Own.nil_ _ _ _ _ _ _⟩ ?_
 clear hw
 rintro ⟨k, A1, c1⟩ w' ⟨hk, hw, hO⟩
 simp only at hk hO ⊢
 by_cases hkn : k < n
 ·repeat' (first | (show CW _ _ _ _ _ _; first | refine CW.seq ?_ | refine CW.region ?_ | refine CW.block ?_ | refine CW.condd_t rfl (by omega) ?_ | refine CW.skip ?_) | (show Post _ _ _ _ _; refine Post.seq ?_) | refine SW.nil ?_ | refine SW.pure rfl rfl ?_ | (show SW _ _ _ _ (⟨_, Op.indexAddr _ _ _, _, _, _, none⟩ :: _) _ _; refine SW.st (st_indexN rfl rfl (by assumption) (by omega)) rfl ?_) | (show SW _ _ _ _ (⟨_, Op.call ⟨.builtin .len, _, _⟩, _, _, _, none⟩ :: _) _ _; refine SW.st (st_len rfl) rfl ?_) | (show SW _ _ _ _ (⟨_, Op.load _ _, _, _, _, none⟩ :: _) _ _; refine SW.st (st_loadsx hw rfl rfl ((hl.all hkn))) rfl ?_))
  refine SW.build1 rfl rfl rfl rfl rfl fun b w1 hw1 hb hB => ?_
  replace hw := Ext.trans hw hw1
  replace hO := hO.ext hw1
  refine SW.append hO (Blk.sl1 (enc := encBk) hB) hw.size rfl rfl rfl (by omega) (by omega) fun A2 c2 w2 hO1 hg => ?_
  replace hw := ext_grown hw hg (Nat.le_refl _) hO.row_ge
  repeat' (first | (show CW _ _ _ _ _ _; refine CW.region ?_) | (show Post _ _ _ _ _; first | refine Post.seq ?_ | refine Post.blk ?_) | refine SW.nil ?_ | refine SW.pure rfl rfl ?_ | (show SW _ _ _ _ (⟨_, Op.binOp _ _ _ _ _, _, _, _, none⟩ :: _) _ _; refine SW.st (st_add rfl rfl (by omega) (by omega)) rfl ?_))
  refine Post.again (k + 1, A2, c2) ⟨rfl, rfl, rfl, trivial⟩ (by simp only; omega) ⟨by simp only; omega, hw, ?_⟩
  rw [List.take_succ_eq_append_getElem (hl.lt hkn)]
  exact hO1
 ·repeat' (first | (show CW _ _ _ _ _ _; first | refine CW.seq ?_ | refine CW.region ?_ | refine CW.condd_f rfl (by omega) ?_ | refine CW.ret ?_ | refine CW.exit ?_) | (show Post _ _ _ _ _; first | refine Post.seq ?_ | refine Post.seq_exit ?_ | refine Post.hit ?_ | refine Post.again_exit ?_) | refine SW.nil ?_ | refine SW.pure rfl rfl ?_ | (show SW _ _ _ _ (⟨_, Op.call ⟨.builtin .len, _, _⟩, _, _, _, none⟩ :: _) _ _; refine SW.st (st_len rfl) rfl ?_))
  obtain rfl : k = n := by omega
  refine Post.ret1 rfl rfl ⟨_, rfl, hw, A1, c1, rfl, ?_⟩
  rwa [List.take_of_length_le (by have := hl.len; omega)] at hO
theorem sameBlocks_ans (A B : Option Addr) (n m c d : Nat) (xs ys : List Block) (w : World) (hx : Sl w 3 encBk A n xs) (hy : Sl w 3 encBk B m ys) (hn : n ≤ 2305843009213693952) :
  Ans Tryd.prog 33 [.slice A n c, .slice B m d] w fun v _ => v = .bool (decide (xs = ys)) := by
 refine ans_of Tryd.func33 rfl Tryd.ntmps33 rfl ?_
 have hl := hx.len
 have hl' := hy.len
 have hA := hx.base
 have hB := hy.base
 have hw := Ext.refl w
 repeat' (first | (show CW _ _ _ _ _ _; first | refine CW.seq ?_ | refine CW.region ?_ | refine CW.block ?_ | refine CW.condn rfl (fun h => ?_) (fun h => ?_) | refine CW.skip ?_ | refine CW.ret ?_) | (show Post _ _ _ _ _; first | refine Post.seq ?_ | refine Post.seq_ret ?_) | refine SW.nil ?_ | refine SW.pure rfl rfl ?_ | (show SW _ _ _ _ (⟨_, Op.call ⟨.builtin .len, _, _⟩, _, _, _, none⟩ :: _) _ _; refine SW.st (st_len rfl) rfl ?_))
 ·refine Post.ret1 rfl rfl ⟨_, rfl, hw, ?_⟩
  have : xs ≠ ys := fun e => by subst e; omega
  simp [this]
 ·have hnm : n = m := by omega
  refine CW.loop (fun k : Nat => [(0, .slice A n c), (1, .slice B m d), (5, .int .i64 (k : Int))])
   (fun k w' => k ≤ n ∧ Ext w w' ∧ ∀ j (h1 : j < xs.length) (h2 : j < ys.length), j < k → xs[j] = ys[j]) (fun k => n - k) 0 ⟨rfl, rfl, rfl, trivial⟩ ⟨by omega, hw, fun j _ _ h => by omega⟩ ?_
  clear hw
  rintro k w' ⟨hk, hw, heq⟩
  by_cases hkn : k < n
  ·repeat' (first | (show CW _ _ _ _ _ _; first | refine CW.seq ?_ | refine CW.region ?_ | refine CW.block ?_ | refine CW.condd_t rfl (by omega) ?_ | refine CW.condn rfl (fun h => ?_) (fun h => ?_) | refine CW.skip ?_ | refine CW.ret ?_ | (apply CW.quiet1 mixed; (· kernel_rfl); rotate_left; intro w1 hw1; replace hw := Ext.trans hw hw1; clear hw1; rotate_right)) | (show Post _ _ _ _ _; first | refine Post.seq ?_ | refine Post.seq_ret ?_ | refine Post.blk ?_ | refine Post.blk_ret ?_ | refine Post.again_ret ?_) | refine SW.nil ?_ | refine SW.pure rfl rfl ?_ | (show SW _ _ _ _ (⟨_, Op.binOp _ _ _ _ _, _, _, _, none⟩ :: _) _ _; refine SW.st (st_add rfl rfl (by omega) (by omega)) rfl ?_) | (show SW _ _ _ _ (⟨_, Op.indexAddr _ _ _, _, _, _, none⟩ :: _) _ _; refine SW.st (st_indexN rfl rfl (by assumption) (by omega)) rfl ?_) | (show SW _ _ _ _ (⟨_, Op.call ⟨.builtin .len, _, _⟩, _, _, _, none⟩ :: _) _ _; refine SW.st (st_len rfl) rfl ?_) | (show SW _ _ _ _ (⟨_, Op.load _ _, _, _, _, none⟩ :: _) _ _; first | refine SW.st (st_loadsx hw rfl rfl ((hx.all hkn))) rfl ?_ | refine SW.st (st_loadsx hw rfl rfl ((hy.all (hnm ▸ hkn)))) rfl ?_) | (refine SW.st (st_neS (xs[k]'(hx.lt hkn)).nums (ys[k]'(hy.lt (hnm ▸ hkn))).nums rfl rfl rfl rfl) rfl ?_) | exact SW.qnil rfl)
   ·refine Post.ret1 rfl rfl ⟨_, rfl, hw, ?_⟩
    have : xs ≠ ys := fun e => by subst e; exact h rfl
    simp [this]
   ·refine Post.again (k + 1) ⟨rfl, rfl, rfl, trivial⟩ (by omega) ⟨by omega, hw, fun j h1 h2 hj => ?_⟩
    by_cases hjk : j = k
    ·subst hjk; exact Block.nums_inj.1 (by assumption)
    ·exact heq j h1 h2 (by omega)
  ·repeat' (first | (show CW _ _ _ _ _ _; first | refine CW.seq ?_ | refine CW.region ?_ | refine CW.condd_f rfl (by omega) ?_ | refine CW.ret ?_ | refine CW.exit ?_) | (show Post _ _ _ _ _; first | refine Post.seq ?_ | refine Post.seq_exit ?_ | refine Post.hit ?_ | refine Post.again_exit ?_) | refine SW.nil ?_ | refine SW.pure rfl rfl ?_ | (show SW _ _ _ _ (⟨_, Op.call ⟨.builtin .len, _, _⟩, _, _, _, none⟩ :: _) _ _; refine SW.st (st_len rfl) rfl ?_))
   refine Post.ret1 rfl rfl ⟨_, rfl, hw, ?_⟩
   have : xs = ys := by
    apply List.ext_getElem (by omega)
    intro j h1 h2
    exact heq j h1 h2 (by omega)
   simp [this]
end Go.Proofs.YtfommgdbahemfaaDoor
