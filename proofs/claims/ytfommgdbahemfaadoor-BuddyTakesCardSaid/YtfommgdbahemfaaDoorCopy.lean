/-
  copy, clear, append of zeros, cuts with two ends; own slices as rows; calls that change what is the caller's own. No program in sight.
-/
import Derived.Test.YtfommgdbahemfaaDoorCut
import Derived.Lib.AppendZerosOnto
import Derived.Lib.Overlaps
import Derived.Room.Entries
set_option linter.unusedVariables false
namespace Go.Proofs.YtfommgdbahemfaaDoor
open Go.RowKit

/-- cells laid over a row -/
def lay (cur : List Value) (o : Nat) (cs : List Value) : List Value := cur.take o ++ cs ++ cur.drop (o + cs.length)
theorem lay_nil (cur : List Value) (o : Nat) : lay cur o [] = cur := by simp [lay]
theorem lay_mid (X Y Z cs : List Value) (h : cs.length = Y.length) {o : Nat} (ho : o = X.length) : lay (X ++ Y ++ Z) o cs = X ++ cs ++ Z := by
  subst ho
  unfold lay
  rw [List.append_assoc X Y Z, List.take_left, h]
  congr 1
  rw [← List.append_assoc, List.drop_append]
  have e : List.drop (X.length + Y.length) (X ++ Y) = [] := List.drop_eq_nil_of_le (by simp)
  rw [e]; simp
theorem length_lay (cur : List Value) (o : Nat) (cs : List Value) (h : o + cs.length ≤ cur.length) : (lay cur o cs).length = cur.length := by simp [lay]; omega

theorem Own.opened {α : Type} {w : World} {lo : Nat} {e : TypeId} {sz : Nat} {enc : α → List Value} [E : Enc enc sz] {A : Option Addr} {n c : Nat} {l : List α} (h : Own w lo e sz enc A n c l) (hc : 0 < c) :
    ∃ g rest, A = some ⟨g, 0, none⟩ ∧ lo ≤ g ∧ Blk w g e (l.flatMap enc ++ rest) ∧ n * sz + rest.length = c * sz ∧ n ≤ c ∧ c ≤ maxLen ∧ ownB A c = some g := by
  rcases h.row with ⟨_, h0⟩ | ⟨_, g, cur, rfl, h1, h2, h3, h4, h5, h6⟩
  · omega
  · refine ⟨g, cur.toList.drop (n * sz), rfl, h1, ?_, ?_, h3, h4, by simp [ownB, Nat.pos_iff_ne_zero.1 hc]⟩
    · unfold Blk
      rw [← h6, List.take_append_drop]
      simpa using h2
    · have : n * sz ≤ c * sz := Nat.mul_le_mul_right _ h3
      simp; omega
theorem Own.closed {α : Type} {w : World} {lo : Nat} {e : TypeId} {sz : Nat} {enc : α → List Value} [E : Enc enc sz] {n c g : Nat} {l : List α} {rest : List Value} (hl : l.length = n) (hB : Blk w g e (l.flatMap enc ++ rest)) (hr : n * sz + rest.length = c * sz) (hn : n ≤ c) (hc : 0 < c) (hm : c ≤ maxLen) (hlo : lo ≤ g) :
    Own w lo e sz enc (some ⟨g, 0, none⟩) n c l := by
  have hfl : (l.flatMap enc).length = n * sz := by rw [length_flatMap_enc, hl]
  refine ⟨hl, .inr ⟨hc, g, _, rfl, hlo, hB, hn, hm, ?_, ?_⟩⟩
  · simp [hfl]; omega
  · rw [← hfl]; simp
theorem Own.pre {α : Type} {w : World} {lo : Nat} {e : TypeId} {sz : Nat} {enc : α → List Value} [E : Enc enc sz] {A : Option Addr} {n c : Nat} {l : List α} (h : Own w lo e sz enc A n c l) {i : Nat} (hi : i ≤ n) : Own w lo e sz enc A i c (l.take i) := by
  rcases Nat.eq_zero_or_pos c with hc | hc
  · have h1 := h.le.1
    have : n = 0 := by omega
    subst hc this
    obtain rfl : i = 0 := by omega
    simpa using Own.nil_ w lo e sz enc A
  · obtain ⟨g, rest, rfl, h1, h2, h3, h4, h5, _⟩ := h.opened hc
    refine Own.closed (rest := (l.drop i).flatMap enc ++ rest) (by simp [h.len]; omega) ?_ ?_ (by omega) hc h5 h1
    · rw [← List.append_assoc, ← List.flatMap_append, List.take_append_drop]; exact h2
    · have e1 : ((l.drop i).flatMap enc).length = (n - i) * sz := by rw [length_flatMap_enc]; simp [h.len]
      have e2 : i + (n - i) = n := by omega
      rw [List.length_append, e1, ← h3, ← Nat.add_assoc, ← Nat.add_mul, e2]

/-- a slice of a row, further on -/
theorem Sl.drop {α : Type} {w : World} {sz : Nat} {enc : α → List Value} {A : Option Addr} {n : Nat} {l : List α} (h : Sl w sz enc A n l) (i c : Nat) (hi : i ≤ n) (hc : n ≤ c) : Sl w sz enc (if c = i then A else A.map (·.add (i * sz))) (n - i) (l.drop i) := by
  refine ⟨by simp [h.len], fun hn => ?_, fun j hj k u hu => ?_⟩
  · have := h.base (by omega)
    split
    · exact this
    · simpa using this
  · simp at hj
    have hl := h.len
    rw [if_neg (by omega)]
    have hb := h.base (by omega)
    obtain ⟨a, rfl⟩ := Option.isSome_iff_exists.1 hb
    have hcell := h.cell (i + j) (by omega) k u (by simpa using hu)
    simp only [Option.getD_some, Option.map_some, add_add] at hcell ⊢
    rw [← hcell]
    congr 2
    rw [Nat.add_mul]
theorem Sl.pre {α : Type} {w : World} {sz : Nat} {enc : α → List Value} {A : Option Addr} {n : Nat} {l : List α} (h : Sl w sz enc A n l) {i : Nat} (hi : i ≤ n) : Sl w sz enc A i (l.take i) := by
  refine ⟨by simp [h.len]; omega, fun hn => h.base (by omega), fun j hj k u hu => ?_⟩
  simp at hj
  exact h.cell j (by omega) k u (by simpa using hu)

section
variable {P : Program} {w : World}
theorem grown_setRow {g : Nat} {e : TypeId} {cur cs : List Value} (h : Blk w g e cur) : Blk (w.setRow g cs.toArray) g e cs ∧ w.grownBy (w.setRow g cs.toArray) (some g) :=
  ⟨setRow_heap w g _ _ e (0, 0) h, ⟨rfl, rfl, rfl, by simp, fun j _ hj => by
    show (w.setRow g _).heap[j]? = _
    simp only [World.setRow, Array.getElem?_modify]
    rw [if_neg (fun e => hj (by simp [e]))]⟩⟩

theorem run_copy_gen {t e : TypeId} {z : Value} {sz bytes : Nat} [S : SliceTy P t e sz] [T : ElemTy P e z sz bytes] (ty : TypeId) {A X : Option Addr} {n c m c2 k g o : Nat} {cur cs : List Value} (hk : min m n = k) (hlen : cs.length = k * sz) (hB : Blk w g e cur) (hfit : o + cs.length ≤ cur.length)
    (hpos : 0 < k → A = some ⟨g, o, none⟩ ∧ ∃ ad, X = some ad ∧ ∀ j v, cs[j]? = some v → w.cell? (ad.add j) = some v) (h1 : ∀ v ∈ cs, v.oneCell' = true) :
    ∃ w', (Builtin.copy_ #[t, t] ty #[.slice A n c, .slice X m c2]).run P w = .ok (.int .i64 (k : Int)) w' ∧ Blk w' g e (lay cur o cs) ∧ w.grownBy w' (some g) := by
  obtain ⟨i, hi, hz, hs, hby⟩ := elem_parts P e (z := z) (sz := sz) (bytes := bytes)
  have hmin : Nat.min m n = k := hk
  by_cases h0 : k = 0
  · have hcs : cs = [] := List.eq_nil_of_length_eq_zero (by rw [hlen, h0]; simp)
    subst hcs
    refine ⟨w, ?_, by rw [lay_nil]; exact hB, World.grownBy.refl _ _⟩
    cases A <;> cases X <;> simp [Builtin.copy_, run_underlying S.und, Builtin.lenOf, Builtin.firstCells, sizeOf, typeInfo, hi, hmin, h0, loadCells, loadCellsFrom, storeCells, goInt]
  · obtain ⟨rfl, ad, rfl, hsrc⟩ := hpos (by omega)
    have hl := run_loadCells_list (P := P) w ad cs hsrc
    have hst := run_storeCells_at P g o e cs 0 cur.toArray w hB (by simpa using hfit) h1
    have e1 : (cur.toArray.toList.take (o + 0) ++ cs ++ cur.toArray.toList.drop (o + 0 + cs.length)) = lay cur o cs := by simp [lay]
    rw [e1] at hst
    rw [hlen] at hl
    refine ⟨_, ?_, (grown_setRow hB).1, (grown_setRow hB).2⟩
    simp [Builtin.copy_, run_underlying S.und, Builtin.lenOf, Builtin.firstCells, sizeOf, typeInfo, hi, hs, hmin, hl, hst, goInt]

theorem run_clear_gen {t e : TypeId} {z : Value} {sz bytes : Nat} [S : SliceTy P t e sz] [T : ElemTy P e z sz bytes] (ty : TypeId) {A : Option Addr} {n c g o : Nat} {cur : List Value} (hB : Blk w g e cur) (hfit : o + n * sz ≤ cur.length) (hpos : 0 < n → A = some ⟨g, o, none⟩) (hz1 : ∀ v ∈ z.cells.toList, v.oneCell' = true) :
    ∃ w' cs, (Builtin.clear_ #[t] ty #[.slice A n c]).run P w = .ok (.tuple #[]) w' ∧ cs.length = n * sz ∧ Blk w' g e (lay cur o cs) ∧ w.grownBy w' (some g) := by
  obtain ⟨i, hi, hz, hs, hby⟩ := elem_parts P e (z := z) (sz := sz) (bytes := bytes)
  by_cases h0 : n = 0
  · subst h0
    refine ⟨w, [], ?_, by simp, by rw [lay_nil]; exact hB, World.grownBy.refl _ _⟩
    cases A <;> simp [Builtin.clear_, run_underlying S.und]
  · obtain rfl := hpos (by omega)
    obtain ⟨k, rfl⟩ : ∃ k, n = k + 1 := ⟨n - 1, by omega⟩
    have hlen : (Builtin.zeroCells z.cells (k + 1)).toList.length = (k + 1) * sz := by simp [Go.size_zeroCells, T.zc]
    have h1 : ∀ v ∈ (Builtin.zeroCells z.cells (k + 1)).toList, v.oneCell' = true := by
      intro v hv
      simp only [Builtin.zeroCells, Array.toList_map, Array.toList_range, List.mem_map] at hv
      obtain ⟨j, hj, rfl⟩ := hv
      have hp := T.pos
      have : j % z.cells.size < z.cells.size := Nat.mod_lt _ (by rw [T.zc]; exact hp)
      rw [getElem!_pos z.cells _ this]
      exact hz1 _ (Array.getElem_mem_toList _)
    have hst := run_storeCells_at P g o e (Builtin.zeroCells z.cells (k + 1)).toList 0 cur.toArray w hB (by rw [hlen]; simpa using hfit) h1
    have e1 : (cur.toArray.toList.take (o + 0) ++ (Builtin.zeroCells z.cells (k + 1)).toList ++ cur.toArray.toList.drop (o + 0 + (Builtin.zeroCells z.cells (k + 1)).toList.length)) = lay cur o (Builtin.zeroCells z.cells (k + 1)).toList := by simp [lay]
    rw [e1] at hst
    refine ⟨_, _, ?_, hlen, (grown_setRow hB).1, (grown_setRow hB).2⟩
    simp [Builtin.clear_, run_underlying S.und, zeroValue, typeInfo, hi, hz, hst]
end

section
variable {P : Program} {n : Nat} {ops : Array Oper} {Q : Exit → Act → World → Prop} {rest : List Oper} {L : Env} {w : World} {d : Option Nat} {T : TypeId} {pos : String} {af : Array Edge} {g : Option (Nat × Bool)}
theorem SW.copy {d : Nat} {t e : TypeId} {z : Value} {sz bytes : Nat} [S : SliceTy P t e sz] [E : ElemTy P e z sz bytes] {x y : Operand} {A X : Option Addr} {m c m2 c2 k g : Nat} (o : Nat) {cur : List Value} (cs : List Value) (hB : Blk w g e cur) (hx : opv L x = some (.slice A m c)) (hy : opv L y = some (.slice X m2 c2)) (hn : Nat.blt d n = true)
    (hk : min m2 m = k) (hlen : cs.length = k * sz) (hfit : o + cs.length ≤ cur.length) (hpos : 0 < k → A = some ⟨g, o, none⟩ ∧ ∃ ad, X = some ad ∧ ∀ j v, cs[j]? = some v → w.cell? (ad.add j) = some v) (h1 : ∀ v ∈ cs, v.oneCell' = true)
    (h : ∀ w', Blk w' g e (lay cur o cs) → w.grownBy w' (some g) → SW P n ops (.eff Q) rest ((d, .int .i64 (k : Int)) :: L) w') :
    SW P n ops (.eff Q) (⟨some d, .call ⟨.builtin .copy, #[x, y], #[t, t]⟩, T, pos, af, none⟩ :: rest) L w :=
  ⟨fun a ha => by
    obtain ⟨w', hr, h2, h3⟩ := run_copy_gen (P := P) (t := t) T (c := c) (c2 := c2) hk hlen hB hfit hpos h1
    simp only [swp, wpList, Region.wanted, if_true]
    refine .inl ?_
    unfold Oper.wp
    have : (execOp a.eval ⟨some d, .call ⟨.builtin .copy, #[x, y], #[t, t]⟩, T, pos, af, none⟩).run P w = .ok (.value (.int .i64 (k : Int))) w' := by
      simp [execOp, resolve, invoke, builtin, ha.eval hx, ha.eval hy, hr]
    rw [this, Oper.upon_value]
    exact (h w' h2 h3).out _ (ha.put hn _)⟩
theorem SW.copy0 {d : Nat} {t e : TypeId} {z : Value} {sz bytes : Nat} [S : SliceTy P t e sz] [E : ElemTy P e z sz bytes] {x y : Operand} {A X : Option Addr} {m c m2 c2 : Nat} (hx : opv L x = some (.slice A m c)) (hy : opv L y = some (.slice X m2 c2)) (hn : Nat.blt d n = true) (hk : min m2 m = 0)
    (h : SW P n ops (.eff Q) rest ((d, .int .i64 0) :: L) w) : SW P n ops (.eff Q) (⟨some d, .call ⟨.builtin .copy, #[x, y], #[t, t]⟩, T, pos, af, none⟩ :: rest) L w :=
  ⟨fun a ha => by
    obtain ⟨i, hi, hz, hs, hby⟩ := elem_parts P e (z := z) (sz := sz) (bytes := bytes)
    have hmin : Nat.min m2 m = 0 := hk
    simp only [swp, wpList, Region.wanted, if_true]
    refine .inl ?_
    unfold Oper.wp
    have hr : (Builtin.copy_ #[t, t] T #[.slice A m c, .slice X m2 c2]).run P w = .ok (.int .i64 0) w := by
      cases A <;> cases X <;> simp [Builtin.copy_, run_underlying S.und, Builtin.lenOf, Builtin.firstCells, sizeOf, typeInfo, hi, hmin, loadCells, loadCellsFrom, storeCells, goInt]
    have : (execOp a.eval ⟨some d, .call ⟨.builtin .copy, #[x, y], #[t, t]⟩, T, pos, af, none⟩).run P w = .ok (.value (.int .i64 0)) w := by
      simp [execOp, resolve, invoke, builtin, ha.eval hx, ha.eval hy, hr]
    rw [this, Oper.upon_value]
    exact h.out _ (ha.put hn _)⟩
theorem SW.clear {t e : TypeId} {z : Value} {sz bytes : Nat} [S : SliceTy P t e sz] [E : ElemTy P e z sz bytes] {x : Operand} {A : Option Addr} {m c g : Nat} (o : Nat) {cur : List Value} (hB : Blk w g e cur) (hx : opv L x = some (.slice A m c)) (hfit : o + m * sz ≤ cur.length) (hpos : 0 < m → A = some ⟨g, o, none⟩) (hz1 : ∀ v ∈ z.cells.toList, v.oneCell' = true)
    (h : ∀ w' cs, cs.length = m * sz → Blk w' g e (lay cur o cs) → w.grownBy w' (some g) → SW P n ops (.eff Q) rest L w') :
    SW P n ops (.eff Q) (⟨none, .call ⟨.builtin .clear, #[x], #[t]⟩, T, pos, af, none⟩ :: rest) L w :=
  ⟨fun a ha => by
    obtain ⟨w', cs, hr, h1, h2, h3⟩ := run_clear_gen (P := P) (t := t) T (c := c) hB hfit hpos hz1
    simp only [swp, wpList, Region.wanted, if_true]
    refine .inl ?_
    unfold Oper.wp
    have : (execOp a.eval ⟨none, .call ⟨.builtin .clear, #[x], #[t]⟩, T, pos, af, none⟩).run P w = .ok (.value (.tuple #[])) w' := by
      simp [execOp, resolve, invoke, builtin, ha.eval hx, hr]
    rw [this, Oper.upon_value]
    exact (h w' cs h1 h2 h3).out _ (ha.put_none _)⟩

theorem st_sliceLH {t e : TypeId} {sz : Nat} [c : SliceTy P t e sz] {x y u : Operand} {A : Option Addr} {m cap i j : Nat} (hx : opv L x = some (.slice A m cap)) (hy : opv L y = some (.int .i64 (i : Int))) (hu : opv L u = some (.int .i64 (j : Int))) (hi : i ≤ j) (hj : j ≤ cap) :
    St P ⟨d, .slice t x (some y) (some u) none, T, pos, af, g⟩ L w (.slice (if cap = i then A else A.map (·.add (i * sz))) (j - i) (cap - i)) :=
  ⟨fun _ a ha w' _ => by
    have e1 := ha.eval hx; have e2 := ha.eval hy; have e3 := ha.eval hu; generalize a.eval = ρ at *
    simp [execOp, e1, e2, e3, Instr.sliceAt, Instr.slice, Instr.sliceBounds, Instr.sliceBound, asIntOf, run_underlying c.und, run_sizeOf c.size, hi, hj]⟩
theorem st_slice3 {t e : TypeId} {sz : Nat} [c : SliceTy P t e sz] {x y u v : Operand} {A : Option Addr} {m cap i j k : Nat} (hx : opv L x = some (.slice A m cap)) (hy : opv L y = some (.int .i64 (i : Int))) (hu : opv L u = some (.int .i64 (j : Int))) (hv : opv L v = some (.int .i64 (k : Int))) (hi : i ≤ j) (hj : j ≤ k) (hk : k ≤ cap) :
    St P ⟨d, .slice t x (some y) (some u) (some v), T, pos, af, g⟩ L w (.slice (if k = i then A else A.map (·.add (i * sz))) (j - i) (k - i)) :=
  ⟨fun _ a ha w' _ => by
    have e1 := ha.eval hx; have e2 := ha.eval hy; have e3 := ha.eval hu; have e4 := ha.eval hv; generalize a.eval = ρ at *
    simp [execOp, e1, e2, e3, e4, Instr.sliceAt, Instr.slice, Instr.sliceBounds, Instr.sliceBound, asIntOf, run_underlying c.und, run_sizeOf c.size, hi, hj, hk]⟩
end

/-! calls that change what is the caller's own -/
section
variable {P : Program} {n : Nat} {ops : Array Oper} {Q : Exit → Act → World → Prop} {rest : List Oper} {L : Env} {w : World}
structure AnsX (P : Program) (f : FuncId) (args : List Value) (w : World) (R : Value → World → Prop) : Prop where
  out : Calls P f args.toArray w fun e w' => ∃ v, e = .returned v ∧ R v w'
theorem SW.callX {d : Nat} {f : FuncId} {xs : List Operand} {vs : List Value} {ts : Array TypeId} {T : TypeId} {pos : String} {af : Array Edge} {R : Value → World → Prop}
    [Body P f] (hx : opvs L xs = some vs) (hn : Nat.blt d n = true) (hc : AnsX P f vs w R) (h : ∀ v w', R v w' → SW P n ops (.eff Q) rest ((d, v) :: L) w') :
    SW P n ops (.eff Q) (⟨some d, .call ⟨.value (.func f), xs.toArray, ts⟩, T, pos, af, none⟩ :: rest) L w :=
  ⟨fun a ha => by
    simp only [swp, wpList, Region.wanted, if_true]
    refine .inl ?_
    unfold Oper.wp
    rw [run_call, Oper.upon_enter, ha.evals hx]
    refine Calls.mono hc.out ?_
    rintro e w' ⟨v, rfl, hv⟩
    exact (h v w' hv).out _ (ha.put hn v)⟩
theorem SW.callXN {f : FuncId} {xs : List Operand} {vs : List Value} {ts : Array TypeId} {T : TypeId} {pos : String} {af : Array Edge} {R : Value → World → Prop}
    [Body P f] (hx : opvs L xs = some vs) (hc : AnsX P f vs w R) (h : ∀ v w', R v w' → SW P n ops (.eff Q) rest L w') :
    SW P n ops (.eff Q) (⟨none, .call ⟨.value (.func f), xs.toArray, ts⟩, T, pos, af, none⟩ :: rest) L w :=
  ⟨fun a ha => by
    simp only [swp, wpList, Region.wanted, if_true]
    refine .inl ?_
    unfold Oper.wp
    rw [run_call, Oper.upon_enter, ha.evals hx]
    refine Calls.mono hc.out ?_
    rintro e w' ⟨v, rfl, hv⟩
    exact (h v w' hv).out _ (ha.put_none v)⟩
theorem ansx_of {fn : Func} {f : FuncId} {c : Code} {args : List Value} {R : Value → World → Prop} (hf : P.funcs[f]? = some fn) (hb : fn.body = some c) (hn : fn.ntmps = n) (hl : Nat.ble args.length n = true)
    (h : CW P n c (bodyPost P fn fun e w' => ∃ v, e = .returned v ∧ R v w') (argsEnv 0 args) w) : AnsX P f args w R := by
  have hl' : args.length ≤ n := by simpa using hl
  refine ⟨calls_of_wp hf hb (h.out _ ⟨?_, rfl, ?_⟩)⟩
  · simp [hn]; omega
  · intro i v hi
    obtain ⟨_, h2⟩ := get_argsEnv args 0 i v hi
    simp only [Nat.sub_zero] at h2
    have hlt : i < args.length := by
      rcases Nat.lt_or_ge i args.length with h | h
      · exact h
      · rw [List.getElem?_eq_none h] at h2; cases h2
    rw [Array.getD_eq_getD_getElem?, Array.getElem?_append_left (by simpa using hlt)]
    simp [h2]
theorem Ans.x {f : FuncId} {args : List Value} {R : Value → World → Prop} (h : Ans P f args w R) : AnsX P f args w fun v w' => Ext w w' ∧ R v w' := ⟨Calls.mono h.out fun _ _ ⟨v, he, hx, hv⟩ => ⟨v, he, hx, hv⟩⟩

/-- a function without a body: the model's own entry -/
theorem SW.entry {d : Nat} {f : FuncId} {fn : Func} {e : Array Value → Sem Value} {xs : List Operand} {vs : List Value} {v : Value} {ts : Array TypeId} {T : TypeId} {pos : String} {af : Array Edge}
    (hf : P.funcs[f]? = some fn) (hname : (fn.name == "runtime.NumGoroutine") = false) (hb : fn.body.isNone = true) (hn0 : Extern.findNext fn = none) (he : Extern.find fn = some e) (hx : opvs L xs = some vs) (hn : Nat.blt d n = true)
    (hr : (e vs.toArray).run P w = .ok v w) (h : SW P n ops (.eff Q) rest ((d, v) :: L) w) :
    SW P n ops (.eff Q) (⟨some d, .call ⟨.value (.func f), xs.toArray, ts⟩, T, pos, af, none⟩ :: rest) L w :=
  ⟨fun a ha => by
    simp only [swp, wpList, Region.wanted, if_true]
    refine .inl ?_
    unfold Oper.wp
    have h1 := run_callFunc_extern (P := P) hf hname hb hn0 he vs.toArray w
    have : (execOp a.eval ⟨some d, .call ⟨.value (.func f), xs.toArray, ts⟩, T, pos, af, none⟩).run P w = .ok (.value v) w := by
      have e2 := ha.evals hx
      simp only [execOp, resolve, Deferred.ofValue, Act.eval, Sem.run_bind, Result.andThen, invoke, List.map_toArray, e2]
      rw [hr] at h1
      simpa [Result.andThen] using h1
    rw [this, Oper.upon_value]
    exact h.out _ (ha.put hn v)⟩
end

theorem Ext.gr {w w' : World} (h : Ext w w') (row : Option Nat) : w.grownBy w' row := ⟨h.os, h.tape, h.output, h.size, fun k hk _ => h.block k hk⟩
theorem grown_trans {w w1 w2 : World} {row row' : Option Nat} (h : w.grownBy w1 row) (k : w1.grownBy w2 row') (hr : row' = row ∨ ∀ i, row' = some i → w.heap.size ≤ i) : w.grownBy w2 row :=
  ⟨k.os.trans h.os, k.tape.trans h.tape, k.output.trans h.output, Nat.le_trans h.size k.size, fun i hi hne => by
    have hi' : i < w1.heap.size := Nat.lt_of_lt_of_le hi h.size
    rcases hr with e | e
    · subst e; rw [k.block i hi' hne, h.block i hi hne]
    · rw [k.block i hi' (fun e' => by have := e i e'.symm; omega), h.block i hi hne]⟩

/-- append where there is room: in place -/
theorem SW.appendIn {α : Type} {P : Program} {n : Nat} {ops : Array Oper} {Q : Exit → Act → World → Prop} {rest : List Oper} {L : Env} {w : World} {dd : Nat} {T : TypeId} {pos : String} {af : Array Edge}
    {lo : Nat} {t e : TypeId} {z : Value} {sz bytes : Nat} {enc : α → List Value} {A X : Option Addr} {k c m c2 : Nat} {l ys : List α} [S : SliceTy P t e sz] [T' : ElemTy P e z sz bytes] [E : Enc enc sz] {x y : Operand}
    (hO : Own w lo e sz enc A k c l) (hS : Sl w sz enc X m ys) (hroom : k + m ≤ c) (hx : opv L x = some (.slice A k c)) (hy : opv L y = some (.slice X m c2)) (hn : Nat.blt dd n = true)
    (h : ∀ w', Own w' lo e sz enc A (k + m) c (l ++ ys) → w.grownBy w' (ownB A c) → SW P n ops (.eff Q) rest ((dd, .slice A (k + m) c) :: L) w') :
    SW P n ops (.eff Q) (⟨some dd, .call ⟨.builtin .append, #[x, y], #[t, t]⟩, T, pos, af, none⟩ :: rest) L w :=
  ⟨fun a ha => by
    obtain ⟨i, hi, hz, hs, hby⟩ := elem_parts P e (z := z) (sz := sz) (bytes := bytes)
    have hyl : (ys.flatMap enc).length = m * sz := by rw [length_flatMap_enc, hS.len]
    have hone : ∀ u ∈ ys.flatMap enc, u.oneCell' = true := fun u hu => by
      obtain ⟨x, _, hx⟩ := List.mem_flatMap.1 hu
      exact E.one x u hx
    have key : ∃ w', (Builtin.append_ #[t, t] T #[.slice A k c, .slice X m c2]).run P w = .ok (.slice A (k + m) c) w' ∧ Own w' lo e sz enc A (k + m) c (l ++ ys) ∧ w.grownBy w' (ownB A c) := by
      by_cases hm0 : m = 0
      · subst hm0
        have hy0 : ys = [] := List.eq_nil_of_length_eq_zero hS.len
        subst hy0
        refine ⟨w, ?_, by simpa using hO, World.grownBy.refl _ _⟩
        have hkc : k ≤ c := by omega
        cases A <;> cases X <;> simp [Builtin.append_, run_underlying S.und, sizeOf, typeInfo, hi, Builtin.lenOf, hkc, Builtin.firstCells, loadCells, loadCellsFrom, storeCells]
      · obtain ⟨ad, rfl⟩ := Option.isSome_iff_exists.1 (hS.base (by omega))
        have hnews := cells_flatMap T'.pos hS
        obtain ⟨g, rest, rfl, h1, h2, h3, h4, h5, h6⟩ := hO.opened (by omega)
        have hfit : (k + m) * sz ≤ c * sz := Nat.mul_le_mul_right _ hroom
        have hfl : (l.flatMap enc).length = k * sz := by rw [length_flatMap_enc, hO.len]
        rw [Nat.add_mul] at hfit
        have hr := run_append_room (P := P) w t T e i S.und hi g k c (l.flatMap enc ++ rest).toArray h2 ad m c2 (ys.flatMap enc) (by rw [hs]; exact hyl) hnews hone hroom (by rw [hs, hyl]; simp [hfl]; omega)
        have e1 : (l.flatMap enc ++ rest).toArray.toList.take (k * i.size) ++ ys.flatMap enc ++ (l.flatMap enc ++ rest).toArray.toList.drop (k * i.size + (ys.flatMap enc).length) = (l ++ ys).flatMap enc ++ rest.drop (m * sz) := by
          rw [hs]
          have h7 := lay_mid (l.flatMap enc) (rest.take (m * sz)) (rest.drop (m * sz)) (ys.flatMap enc) (by rw [hyl]; simp; omega) (o := k * sz) hfl.symm
          rw [List.append_assoc (l.flatMap enc), List.take_append_drop] at h7
          rw [List.flatMap_append]
          exact h7
        rw [e1] at hr
        refine ⟨_, hr, ?_, ?_⟩
        · exact Own.closed (by rw [List.length_append, hO.len, hS.len]) (grown_setRow h2).1 (by rw [Nat.add_mul]; simp; omega) hroom (by omega) h5 h1
        · rw [h6]; exact (grown_setRow h2).2
    obtain ⟨w', hr, h1, h2⟩ := key
    simp only [swp, wpList, Region.wanted, if_true]
    refine .inl ?_
    unfold Oper.wp
    have : (execOp a.eval ⟨some dd, .call ⟨.builtin .append, #[x, y], #[t, t]⟩, T, pos, af, none⟩).run P w = .ok (.value (.slice A (k + m) c)) w' := by
      simp [execOp, resolve, invoke, builtin, ha.eval hx, ha.eval hy, hr]
    rw [this, Oper.upon_value]
    exact (h w' h1 h2).out _ (ha.put hn _)⟩

/-- append of zeros where there is no room: a new row -/
theorem SW.appendZ {α : Type} {P : Program} {n : Nat} {ops : Array Oper} {Q : Exit → Act → World → Prop} {rest : List Oper} {L : Env} {w : World} {d : Nat} {T : TypeId} {pos : String} {af : Array Edge}
    {t tn e : TypeId} {z : Value} {sz bytes : Nat} {enc : α → List Value} {A : Option Addr} {m c k : Nat} {l : List α} {lk : IntKind} [S : SliceTy P t e sz] [T' : ElemTy P e z sz bytes] [E : Enc enc sz] {x y : Operand}
    {j : Int} (hS : Sl w sz enc A m l) (htn : P.underlying tn = some (.int lk)) (hx : opv L x = some (.slice A m c)) (hy : opv L y = some (.int .i64 j)) (hj : j = (k : Int)) (hn : Nat.blt d n = true) (hk : 0 < k) (hroom : c < m + k) (hb : (m + k) * bytes ≤ 140737488355328) (hm : m + k ≤ 9223372036854775807)
    (h : ∀ g rest' c' w', Ext w w' → w.heap.size ≤ g → Blk w' g e (l.flatMap enc ++ rest') → m * sz + rest'.length = c' * sz → m + k ≤ c' → c' ≤ maxLen → SW P n ops (.eff Q) rest ((d, .slice (some ⟨g, 0, none⟩) (m + k) c') :: L) w') :
    SW P n ops (.eff Q) (⟨some d, .call ⟨.builtin .append, #[x, y], #[t, tn]⟩, T, pos, af, none⟩ :: rest) L w :=
  ⟨fun a ha => by
    subst hj
    obtain ⟨i, hi, hz, hs, hby⟩ := elem_parts P e (z := z) (sz := sz) (bytes := bytes)
    have hp := T'.pos
    have hcells := cells_flatMap hp hS
    have hlen : (l.flatMap enc).length = m * sz := by rw [length_flatMap_enc, hS.len]
    have hold : (Builtin.firstCells i.size m (.slice A m c)).run P w.drew = .ok (l.flatMap enc).toArray w.drew := by
      rw [hs]
      cases A with
      | none =>
        have h0 : m = 0 := by
          rcases Nat.eq_zero_or_pos m with h0 | h0
          · exact h0
          · have := hS.base h0; simp at this
        subst h0
        have : l = [] := List.eq_nil_of_length_eq_zero hS.len
        subst this
        simp [Builtin.firstCells]
      | some ad =>
        simp only [Builtin.firstCells]
        rw [← hlen]
        exact run_loadCells_list (P := P) w.drew ad _ (fun j v hv => hcells j v hv)
    have hcap := Room.nextslicecap_le' hroom
    have hfit : Builtin.nextslicecap (m + k) c * i.bytes ≤ 281474976710656 := by
      rw [hby]
      calc Builtin.nextslicecap (m + k) c * bytes ≤ 2 * (m + k) * bytes := Nat.mul_le_mul_right _ hcap
        _ ≤ 281474976710656 := by rw [Nat.mul_assoc]; omega
    have h48 : k * i.bytes ≤ 281474976710656 := by
      rw [hby]
      have : k * bytes ≤ (m + k) * bytes := Nat.mul_le_mul_right _ (by omega)
      omega
    have hr := Lib.run_append_grow_zeros (P := P) w t tn T e i z .i64 lk S.und htn hi hz A m c _ hold k hk (by rw [hs]; exact hp) hroom (by omega) h48 hfit
    simp only [swp, wpList, Region.wanted, if_true]
    refine .inl ?_
    unfold Oper.wp
    have : (execOp a.eval ⟨some d, .call ⟨.builtin .append, #[x, y], #[t, tn]⟩, T, pos, af, none⟩).run P w = .ok (.value (.slice (some ⟨w.heap.size, 0, none⟩) (m + k) (grownCap w (m + k) c e))) (w.drew.alloc (.cells ((l.flatMap enc).toArray ++ Builtin.zeroCells z.cells k ++ Builtin.zeroCells z.cells (grownCap w (m + k) c e - (m + k))) e)) := by
      simp [execOp, resolve, invoke, builtin, ha.eval hx, ha.eval hy, hr]
    rw [this, Oper.upon_value]
    have hg := grownCap_ge w (m + k) c e
    refine (h w.heap.size ((Builtin.zeroCells z.cells k).toList ++ (Builtin.zeroCells z.cells (grownCap w (m + k) c e - (m + k))).toList) _ _ (Ext.trans (Ext.drew w) (Ext.alloc _ _)) (Nat.le_refl _) ?_ ?_ hg (grownCap_le_maxLen w _ _ _ (by simp only [maxLen]; omega))).out _ (ha.put hn _)
    · have := Blk.new w.drew e (l.flatMap enc ++ ((Builtin.zeroCells z.cells k).toList ++ (Builtin.zeroCells z.cells (grownCap w (m + k) c e - (m + k))).toList))
      have e1 : (l.flatMap enc ++ ((Builtin.zeroCells z.cells k).toList ++ (Builtin.zeroCells z.cells (grownCap w (m + k) c e - (m + k))).toList)).toArray = (l.flatMap enc).toArray ++ Builtin.zeroCells z.cells k ++ Builtin.zeroCells z.cells (grownCap w (m + k) c e - (m + k)) := by
        apply Array.ext'; simp
      rw [e1] at this
      exact this
    · simp only [List.length_append, Array.length_toList, Go.size_zeroCells, T'.zc]
      rw [← Nat.add_mul, ← Nat.add_mul]
      congr 1; omega⟩
end Go.Proofs.YtfommgdbahemfaaDoor
