/-
  Texts of the claim PagesAllocs, part 6: what its theorem leans on.
-/
import Derived.Test.YtfommgdbahemfaaDoorPackPagesAllocs5
import Derived.Lib.AppendZerosOnto
import Derived.Lib.Overlaps
import Derived.Room.Entries
import Derived.Test.YtfommgdbahemfaaDoorPackPagesAllocs3
import Derived.Test.YtfommgdbahemfaaDoorPackPagesAllocs2
set_option linter.unusedVariables false
namespace Go.Proofs.YtfommgdbahemfaaDoor
open Go.RowKit
def lay (cur : List Value) (o : Nat) (cs : List Value) : List Value := cur.take o ++ cs ++ cur.drop (o + cs.length)
theorem lay_nil (cur : List Value) (o : Nat) : lay cur o [] = cur := by simp [lay]
theorem lay_mid (X Y Z cs : List Value) (h : cs.length = Y.length) {o : Nat} (ho : o = X.length) : lay (X ++ Y ++ Z) o cs = X ++ cs ++ Z := by
 subst ho
 unfold lay
 rw [List.append_assoc X Y Z, List.take_left, h]
 congr 1
 rw [← List.append_assoc, List.drop_append]
 have e : List.drop (X.length + Y.length) (X ++ Y) = [] := List.drop_eq_nil_of_le (by simp)
 rw [e]; simp
theorem Own.opened {α : Type} {w : World} {lo : Nat} {e : TypeId} {sz : Nat} {enc : α → List Value} [E : Enc enc sz] {A : Option Addr} {n c : Nat} {l : List α} (h : Own w lo e sz enc A n c l) (hc : 0 < c) :
  ∃ g rest, A = some ⟨g, 0, none⟩ ∧ lo ≤ g ∧ Blk w g e (l.flatMap enc ++ rest) ∧ n * sz + rest.length = c * sz ∧ n ≤ c ∧ c ≤ maxLen ∧ ownB A c = some g := by
 rcases h.row with ⟨_, h0⟩ | ⟨_, g, cur, rfl, h1, h2, h3, h4, h5, h6⟩
 ·omega
 ·refine ⟨g, cur.toList.drop (n * sz), rfl, h1, ?_, ?_, h3, h4, by simp [ownB, Nat.pos_iff_ne_zero.1 hc]⟩
  ·unfold Blk
   rw [← h6, List.take_append_drop]
   simpa using h2
  ·have : n * sz ≤ c * sz := Nat.mul_le_mul_right _ h3
   simp; omega
theorem Own.closed {α : Type} {w : World} {lo : Nat} {e : TypeId} {sz : Nat} {enc : α → List Value} [E : Enc enc sz] {n c g : Nat} {l : List α} {rest : List Value} (hl : l.length = n) (hB : Blk w g e (l.flatMap enc ++ rest)) (hr : n * sz + rest.length = c * sz) (hn : n ≤ c) (hc : 0 < c) (hm : c ≤ maxLen) (hlo : lo ≤ g) :
  Own w lo e sz enc (some ⟨g, 0, none⟩) n c l := by
 have hfl : (l.flatMap enc).length = n * sz := by rw [length_flatMap_enc, hl]
 refine ⟨hl, .inr ⟨hc, g, _, rfl, hlo, hB, hn, hm, ?_, ?_⟩⟩
 ·simp [hfl]; omega
 ·rw [← hfl]; simp
theorem Own.pre {α : Type} {w : World} {lo : Nat} {e : TypeId} {sz : Nat} {enc : α → List Value} [E : Enc enc sz] {A : Option Addr} {n c : Nat} {l : List α} (h : Own w lo e sz enc A n c l) {i : Nat} (hi : i ≤ n) : Own w lo e sz enc A i c (l.take i) := by
 rcases Nat.eq_zero_or_pos c with hc | hc
 ·have h1 := h.le.1
  have : n = 0 := by omega
  subst hc this
  obtain rfl : i = 0 := by omega
  simpa using Own.nil_ w lo e sz enc A
 ·obtain ⟨g, rest, rfl, h1, h2, h3, h4, h5, _⟩ := h.opened hc
  refine Own.closed (rest := (l.drop i).flatMap enc ++ rest) (by simp [h.len]; omega) ?_ ?_ (by omega) hc h5 h1
  ·rw [← List.append_assoc, ← List.flatMap_append, List.take_append_drop]; exact h2
  ·have e1 : ((l.drop i).flatMap enc).length = (n - i) * sz := by rw [length_flatMap_enc]; simp [h.len]
   have e2 : i + (n - i) = n := by omega
   rw [List.length_append, e1, ← h3, ← Nat.add_assoc, ← Nat.add_mul, e2]
theorem Sl.drop {α : Type} {w : World} {sz : Nat} {enc : α → List Value} {A : Option Addr} {n : Nat} {l : List α} (h : Sl w sz enc A n l) (i c : Nat) (hi : i ≤ n) (hc : n ≤ c) : Sl w sz enc (if c = i then A else A.map (·.add (i * sz))) (n - i) (l.drop i) := by
 refine ⟨by simp [h.len], fun hn => ?_, fun j hj k u hu => ?_⟩
 ·have := h.base (by omega)
  split
  ·exact this
  ·simpa using this
 ·simp at hj
  have hl := h.len
  rw [if_neg (by omega)]
  have hb := h.base (by omega)
  obtain ⟨a, rfl⟩ := Option.isSome_iff_exists.1 hb
  have hcell := h.cell (i + j) (by omega) k u (by simpa using hu)
  simp only [Option.getD_some, Option.map_some, add_add] at hcell ⊢
  rw [← hcell]
  congr 2
  rw [Nat.add_mul]
theorem Sl.pre {α : Type} {w : World} {sz : Nat} {enc : α → List Value} {A : Option Addr} {n : Nat} {l : List α} (h : Sl w sz enc A n l) {i : Nat} (hi : i ≤ n) : Sl w sz enc A i (l.take i) := by
 refine ⟨by simp [h.len]; omega, fun hn => h.base (by omega), fun j hj k u hu => ?_⟩
 simp at hj
 exact h.cell j (by omega) k u (by simpa using hu)
section
variable {P : Program} {w : World}
theorem grown_setRow {g : Nat} {e : TypeId} {cur cs : List Value} (h : Blk w g e cur) : Blk (w.setRow g cs.toArray) g e cs ∧ w.grownBy (w.setRow g cs.toArray) (some g) :=
 ⟨setRow_heap w g _ _ e (0, 0) h, ⟨rfl, rfl, rfl, by simp, fun j _ hj => by
  show (w.setRow g _).heap[j]? = _
  simp only [World.setRow, Array.getElem?_modify]
  rw [if_neg (fun e => hj (by simp [e]))]⟩⟩
theorem run_copy_gen {t e : TypeId} {z : Value} {sz bytes : Nat} [S : SliceTy P t e sz] [T : ElemTy P e z sz bytes] (ty : TypeId) {A X : Option Addr} {n c m c2 k g o : Nat} {cur cs : List Value} (hk : min m n = k) (hlen : cs.length = k * sz) (hB : Blk w g e cur) (hfit : o + cs.length ≤ cur.length)
  (hpos : 0 < k → A = some ⟨g, o, none⟩ ∧ ∃ ad, X = some ad ∧ ∀ j v, cs[j]? = some v → w.cell? (ad.add j) = some v) (h1 : ∀ v ∈ cs, v.oneCell' = true) :
  ∃ w', (Builtin.copy_ #[t, t] ty #[.slice A n c, .slice X m c2]).run P w = .ok (.int .i64 (k : Int)) w' ∧ Blk w' g e (lay cur o cs) ∧ w.grownBy w' (some g) := by
 obtain ⟨i, hi, hz, hs, hby⟩ := elem_parts P e (z := z) (sz := sz) (bytes := bytes)
 have hmin : Nat.min m n = k := hk
 by_cases h0 : k = 0
 ·have hcs : cs = [] := List.eq_nil_of_length_eq_zero (by rw [hlen, h0]; simp)
  subst hcs
  refine ⟨w, ?_, by rw [lay_nil]; exact hB, World.grownBy.refl _ _⟩
  cases A <;> cases X <;> simp [Builtin.copy_, run_underlying S.und, Builtin.lenOf, Builtin.firstCells, sizeOf, typeInfo, hi, hmin, h0, loadCells, loadCellsFrom, storeCells, goInt]
 ·obtain ⟨rfl, ad, rfl, hsrc⟩ := hpos (by omega)
  have hl := run_loadCells_list (P := P) w ad cs hsrc
  have hst := run_storeCells_at P g o e cs 0 cur.toArray w hB (by simpa using hfit) h1
  have e1 : (cur.toArray.toList.take (o + 0) ++ cs ++ cur.toArray.toList.drop (o + 0 + cs.length)) = lay cur o cs := by simp [lay]
  rw [e1] at hst
  rw [hlen] at hl
  refine ⟨_, ?_, (grown_setRow hB).1, (grown_setRow hB).2⟩
  simp [Builtin.copy_, run_underlying S.und, Builtin.lenOf, Builtin.firstCells, sizeOf, typeInfo, hi, hs, hmin, hl, hst, goInt]
theorem run_clear_gen {t e : TypeId} {z : Value} {sz bytes : Nat} [S : SliceTy P t e sz] [T : ElemTy P e z sz bytes] (ty : TypeId) {A : Option Addr} {n c g o : Nat} {cur : List Value} (hB : Blk w g e cur) (hfit : o + n * sz ≤ cur.length) (hpos : 0 < n → A = some ⟨g, o, none⟩) (hz1 : ∀ v ∈ z.cells.toList, v.oneCell' = true) :
  ∃ w' cs, (Builtin.clear_ #[t] ty #[.slice A n c]).run P w = .ok (.tuple #[]) w' ∧ cs.length = n * sz ∧ Blk w' g e (lay cur o cs) ∧ w.grownBy w' (some g) := by
 obtain ⟨i, hi, hz, hs, hby⟩ := elem_parts P e (z := z) (sz := sz) (bytes := bytes)
 by_cases h0 : n = 0
 ·subst h0
  refine ⟨w, [], ?_, by simp, by rw [lay_nil]; exact hB, World.grownBy.refl _ _⟩
  cases A <;> simp [Builtin.clear_, run_underlying S.und]
 ·obtain rfl := hpos (by omega)
  obtain ⟨k, rfl⟩ : ∃ k, n = k + 1 := ⟨n - 1, by omega⟩
  have hlen : (Builtin.zeroCells z.cells (k + 1)).toList.length = (k + 1) * sz := by simp [Go.size_zeroCells, T.zc]
  have h1 : ∀ v ∈ (Builtin.zeroCells z.cells (k + 1)).toList, v.oneCell' = true := by
   intro v hv
   simp only [Builtin.zeroCells, Array.toList_map, Array.toList_range, List.mem_map] at hv
   obtain ⟨j, hj, rfl⟩ := hv
   have hp := T.pos
   have : j % z.cells.size < z.cells.size := Nat.mod_lt _ (by rw [T.zc]; exact hp)
   rw [getElem!_pos z.cells _ this]
   exact hz1 _ (Array.getElem_mem_toList _)
  have hst := run_storeCells_at P g o e (Builtin.zeroCells z.cells (k + 1)).toList 0 cur.toArray w hB (by rw [hlen]; simpa using hfit) h1
  have e1 : (cur.toArray.toList.take (o + 0) ++ (Builtin.zeroCells z.cells (k + 1)).toList ++ cur.toArray.toList.drop (o + 0 + (Builtin.zeroCells z.cells (k + 1)).toList.length)) = lay cur o (Builtin.zeroCells z.cells (k + 1)).toList := by simp [lay]
  rw [e1] at hst
  refine ⟨_, _, ?_, hlen, (grown_setRow hB).1, (grown_setRow hB).2⟩
  simp [Builtin.clear_, run_underlying S.und, zeroValue, typeInfo, hi, hz, hst]
end
section
variable {P : Program} {n : Nat} {ops : Array Oper} {Q : Exit → Act → World → Prop} {rest : List Oper} {L : Env} {w : World} {d : Option Nat} {T : TypeId} {pos : String} {af : Array Edge} {g : Option (Nat × Bool)}
theorem SW.copy {d : Nat} {t e : TypeId} {z : Value} {sz bytes : Nat} [S : SliceTy P t e sz] [E : ElemTy P e z sz bytes] {x y : Operand} {A X : Option Addr} {m c m2 c2 k g : Nat} (o : Nat) {cur : List Value} (cs : List Value) (hB : Blk w g e cur) (hx : opv L x = some (.slice A m c)) (hy : opv L y = some (.slice X m2 c2)) (hn : Nat.blt d n = true)
  (hk : min m2 m = k) (hlen : cs.length = k * sz) (hfit : o + cs.length ≤ cur.length) (hpos : 0 < k → A = some ⟨g, o, none⟩ ∧ ∃ ad, X = some ad ∧ ∀ j v, cs[j]? = some v → w.cell? (ad.add j) = some v) (h1 : ∀ v ∈ cs, v.oneCell' = true)
  (h : ∀ w', Blk w' g e (lay cur o cs) → w.grownBy w' (some g) → SW P n ops (.eff Q) rest ((d, .int .i64 (k : Int)) :: L) w') :
  SW P n ops (.eff Q) (⟨some d, .call ⟨.builtin .copy, #[x, y], #[t, t]⟩, T, pos, af, none⟩ :: rest) L w :=
 ⟨fun a ha => by
  obtain ⟨w', hr, h2, h3⟩ := run_copy_gen (P := P) (t := t) T (c := c) (c2 := c2) hk hlen hB hfit hpos h1
  simp only [swp, wpList, Region.wanted, if_true]
  refine .inl ?_
  unfold Oper.wp
  have : (execOp a.eval ⟨some d, .call ⟨.builtin .copy, #[x, y], #[t, t]⟩, T, pos, af, none⟩).run P w = .ok (.value (.int .i64 (k : Int))) w' := by
   simp [execOp, resolve, invoke, builtin, ha.eval hx, ha.eval hy, hr]
  rw [this, Oper.upon_value]
  exact (h w' h2 h3).out _ (ha.put hn _)⟩
theorem SW.clear {t e : TypeId} {z : Value} {sz bytes : Nat} [S : SliceTy P t e sz] [E : ElemTy P e z sz bytes] {x : Operand} {A : Option Addr} {m c g : Nat} (o : Nat) {cur : List Value} (hB : Blk w g e cur) (hx : opv L x = some (.slice A m c)) (hfit : o + m * sz ≤ cur.length) (hpos : 0 < m → A = some ⟨g, o, none⟩) (hz1 : ∀ v ∈ z.cells.toList, v.oneCell' = true)
  (h : ∀ w' cs, cs.length = m * sz → Blk w' g e (lay cur o cs) → w.grownBy w' (some g) → SW P n ops (.eff Q) rest L w') :
  SW P n ops (.eff Q) (⟨none, .call ⟨.builtin .clear, #[x], #[t]⟩, T, pos, af, none⟩ :: rest) L w :=
 ⟨fun a ha => by
  obtain ⟨w', cs, hr, h1, h2, h3⟩ := run_clear_gen (P := P) (t := t) T (c := c) hB hfit hpos hz1
  simp only [swp, wpList, Region.wanted, if_true]
  refine .inl ?_
  unfold Oper.wp
  have : (execOp a.eval ⟨none, .call ⟨.builtin .clear, #[x], #[t]⟩, T, pos, af, none⟩).run P w = .ok (.value (.tuple #[])) w' := by
   simp [execOp, resolve, invoke, builtin, ha.eval hx, hr]
  rw [this, Oper.upon_value]
  exact (h w' cs h1 h2 h3).out _ (ha.put_none _)⟩
theorem st_sliceLH {t e : TypeId} {sz : Nat} [c : SliceTy P t e sz] {x y u : Operand} {A : Option Addr} {m cap i j : Nat} (hx : opv L x = some (.slice A m cap)) (hy : opv L y = some (.int .i64 (i : Int))) (hu : opv L u = some (.int .i64 (j : Int))) (hi : i ≤ j) (hj : j ≤ cap) :
  St P ⟨d, .slice t x (some y) (some u) none, T, pos, af, g⟩ L w (.slice (if cap = i then A else A.map (·.add (i * sz))) (j - i) (cap - i)) :=
 ⟨fun _ a ha w' _ => by
  have e1 := ha.eval hx; have e2 := ha.eval hy; have e3 := ha.eval hu; generalize a.eval = ρ at *
  simp [execOp, e1, e2, e3, Instr.sliceAt, Instr.slice, Instr.sliceBounds, Instr.sliceBound, asIntOf, run_underlying c.und, run_sizeOf c.size, hi, hj]⟩
theorem st_slice3 {t e : TypeId} {sz : Nat} [c : SliceTy P t e sz] {x y u v : Operand} {A : Option Addr} {m cap i j k : Nat} (hx : opv L x = some (.slice A m cap)) (hy : opv L y = some (.int .i64 (i : Int))) (hu : opv L u = some (.int .i64 (j : Int))) (hv : opv L v = some (.int .i64 (k : Int))) (hi : i ≤ j) (hj : j ≤ k) (hk : k ≤ cap) :
  St P ⟨d, .slice t x (some y) (some u) (some v), T, pos, af, g⟩ L w (.slice (if k = i then A else A.map (·.add (i * sz))) (j - i) (k - i)) :=
 ⟨fun _ a ha w' _ => by
  have e1 := ha.eval hx; have e2 := ha.eval hy; have e3 := ha.eval hu; have e4 := ha.eval hv; generalize a.eval = ρ at *
  simp [execOp, e1, e2, e3, e4, Instr.sliceAt, Instr.slice, Instr.sliceBounds, Instr.sliceBound, asIntOf, run_underlying c.und, run_sizeOf c.size, hi, hj, hk]⟩
end
section
variable {P : Program} {n : Nat} {ops : Array Oper} {Q : Exit → Act → World → Prop} {rest : List Oper} {L : Env} {w : World}
structure AnsX (P : Program) (f : FuncId) (args : List Value) (w : World) (R : Value → World → Prop) : Prop where
 out : Calls P f args.toArray w fun e w' => ∃ v, e = .returned v ∧ R v w'
theorem SW.callX {d : Nat} {f : FuncId} {xs : List Operand} {vs : List Value} {ts : Array TypeId} {T : TypeId} {pos : String} {af : Array Edge} {R : Value → World → Prop}
  [Body P f] (hx : opvs L xs = some vs) (hn : Nat.blt d n = true) (hc : AnsX P f vs w R) (h : ∀ v w', R v w' → SW P n ops (.eff Q) rest ((d, v) :: L) w') :
  SW P n ops (.eff Q) (⟨some d, .call ⟨.value (.func f), xs.toArray, ts⟩, T, pos, af, none⟩ :: rest) L w :=
 ⟨fun a ha => by
  simp only [swp, wpList, Region.wanted, if_true]
  refine .inl ?_
  unfold Oper.wp
  rw [run_call, Oper.upon_enter, ha.evals hx]
  refine Calls.mono hc.out ?_
  rintro e w' ⟨v, rfl, hv⟩
  exact (h v w' hv).out _ (ha.put hn v)⟩
theorem ansx_of {fn : Func} {f : FuncId} {c : Code} {args : List Value} {R : Value → World → Prop} (hf : P.funcs[f]? = some fn) (hb : fn.body = some c) (hn : fn.ntmps = n) (hl : Nat.ble args.length n = true)
  (h : CW P n c (bodyPost P fn fun e w' => ∃ v, e = .returned v ∧ R v w') (argsEnv 0 args) w) : AnsX P f args w R := by
 have hl' : args.length ≤ n := by simpa using hl
 refine ⟨calls_of_wp hf hb (h.out _ ⟨?_, rfl, ?_⟩)⟩
 ·simp [hn]; omega
 ·intro i v hi
  obtain ⟨_, h2⟩ := get_argsEnv args 0 i v hi
  simp only [Nat.sub_zero] at h2
  have hlt : i < args.length := by
   rcases Nat.lt_or_ge i args.length with h | h
   ·exact h
   ·rw [List.getElem?_eq_none h] at h2; cases h2
  rw [Array.getD_eq_getD_getElem?, Array.getElem?_append_left (by simpa using hlt)]
  simp [h2]
theorem SW.entry {d : Nat} {f : FuncId} {fn : Func} {e : Array Value → Sem Value} {xs : List Operand} {vs : List Value} {v : Value} {ts : Array TypeId} {T : TypeId} {pos : String} {af : Array Edge}
  (hf : P.funcs[f]? = some fn) (hname : (fn.name == "runtime.NumGoroutine") = false) (hb : fn.body.isNone = true) (hn0 : Extern.findNext fn = none) (he : Extern.find fn = some e) (hx : opvs L xs = some vs) (hn : Nat.blt d n = true)
  (hr : (e vs.toArray).run P w = .ok v w) (h : SW P n ops (.eff Q) rest ((d, v) :: L) w) :
  SW P n ops (.eff Q) (⟨some d, .call ⟨.value (.func f), xs.toArray, ts⟩, T, pos, af, none⟩ :: rest) L w :=
 ⟨fun a ha => by
  simp only [swp, wpList, Region.wanted, if_true]
  refine .inl ?_
  unfold Oper.wp
  have h1 := run_callFunc_extern (P := P) hf hname hb hn0 he vs.toArray w
  have : (execOp a.eval ⟨some d, .call ⟨.value (.func f), xs.toArray, ts⟩, T, pos, af, none⟩).run P w = .ok (.value v) w := by
   have e2 := ha.evals hx
   simp only [execOp, resolve, Deferred.ofValue, Act.eval, Sem.run_bind, Result.andThen, invoke, List.map_toArray, e2]
   rw [hr] at h1
   simpa [Result.andThen] using h1
  rw [this, Oper.upon_value]
  exact h.out _ (ha.put hn v)⟩
end
theorem Ext.gr {w w' : World} (h : Ext w w') (row : Option Nat) : w.grownBy w' row := ⟨h.os, h.tape, h.output, h.size, fun k hk _ => h.block k hk⟩
theorem grown_trans {w w1 w2 : World} {row row' : Option Nat} (h : w.grownBy w1 row) (k : w1.grownBy w2 row') (hr : row' = row ∨ ∀ i, row' = some i → w.heap.size ≤ i) : w.grownBy w2 row :=
 ⟨k.os.trans h.os, k.tape.trans h.tape, k.output.trans h.output, Nat.le_trans h.size k.size, fun i hi hne => by
  have hi' : i < w1.heap.size := Nat.lt_of_lt_of_le hi h.size
  rcases hr with e | e
  ·subst e; rw [k.block i hi' hne, h.block i hi hne]
  ·rw [k.block i hi' (fun e' => by have := e i e'.symm; omega), h.block i hi hne]⟩
theorem SW.appendIn {α : Type} {P : Program} {n : Nat} {ops : Array Oper} {Q : Exit → Act → World → Prop} {rest : List Oper} {L : Env} {w : World} {dd : Nat} {T : TypeId} {pos : String} {af : Array Edge}
  {lo : Nat} {t e : TypeId} {z : Value} {sz bytes : Nat} {enc : α → List Value} {A X : Option Addr} {k c m c2 : Nat} {l ys : List α} [S : SliceTy P t e sz] [T' : ElemTy P e z sz bytes] [E : Enc enc sz] {x y : Operand}
  (hO : Own w lo e sz enc A k c l) (hS : Sl w sz enc X m ys) (hroom : k + m ≤ c) (hx : opv L x = some (.slice A k c)) (hy : opv L y = some (.slice X m c2)) (hn : Nat.blt dd n = true)
  (h : ∀ w', Own w' lo e sz enc A (k + m) c (l ++ ys) → w.grownBy w' (ownB A c) → SW P n ops (.eff Q) rest ((dd, .slice A (k + m) c) :: L) w') :
  SW P n ops (.eff Q) (⟨some dd, .call ⟨.builtin .append, #[x, y], #[t, t]⟩, T, pos, af, none⟩ :: rest) L w :=
 ⟨fun a ha => by
  obtain ⟨i, hi, hz, hs, hby⟩ := elem_parts P e (z := z) (sz := sz) (bytes := bytes)
  have hyl : (ys.flatMap enc).length = m * sz := by rw [length_flatMap_enc, hS.len]
  have hone : ∀ u ∈ ys.flatMap enc, u.oneCell' = true := fun u hu => by
   obtain ⟨x, _, hx⟩ := List.mem_flatMap.1 hu
   exact E.one x u hx
  have key : ∃ w', (Builtin.append_ #[t, t] T #[.slice A k c, .slice X m c2]).run P w = .ok (.slice A (k + m) c) w' ∧ Own w' lo e sz enc A (k + m) c (l ++ ys) ∧ w.grownBy w' (ownB A c) := by
   by_cases hm0 : m = 0
   ·subst hm0
    have hy0 : ys = [] := List.eq_nil_of_length_eq_zero hS.len
    subst hy0
    refine ⟨w, ?_, by simpa using hO, World.grownBy.refl _ _⟩
    have hkc : k ≤ c := by omega
    cases A <;> cases X <;> simp [Builtin.append_, run_underlying S.und, sizeOf, typeInfo, hi, Builtin.lenOf, hkc, Builtin.firstCells, loadCells, loadCellsFrom, storeCells]
   ·obtain ⟨ad, rfl⟩ := Option.isSome_iff_exists.1 (hS.base (by omega))
    have hnews := cells_flatMap T'.pos hS
    obtain ⟨g, rest, rfl, h1, h2, h3, h4, h5, h6⟩ := hO.opened (by omega)
    have hfit : (k + m) * sz ≤ c * sz := Nat.mul_le_mul_right _ hroom
    have hfl : (l.flatMap enc).length = k * sz := by rw [length_flatMap_enc, hO.len]
    rw [Nat.add_mul] at hfit
    have hr := run_append_room (P := P) w t T e i S.und hi g k c (l.flatMap enc ++ rest).toArray h2 ad m c2 (ys.flatMap enc) (by rw [hs]; exact hyl) hnews hone hroom (by rw [hs, hyl]; simp [hfl]; omega)
    have e1 : (l.flatMap enc ++ rest).toArray.toList.take (k * i.size) ++ ys.flatMap enc ++ (l.flatMap enc ++ rest).toArray.toList.drop (k * i.size + (ys.flatMap enc).length) = (l ++ ys).flatMap enc ++ rest.drop (m * sz) := by
     rw [hs]
     have h7 := lay_mid (l.flatMap enc) (rest.take (m * sz)) (rest.drop (m * sz)) (ys.flatMap enc) (by rw [hyl]; simp; omega) (o := k * sz) hfl.symm
     rw [List.append_assoc (l.flatMap enc), List.take_append_drop] at h7
     rw [List.flatMap_append]
     exact h7
    rw [e1] at hr
    refine ⟨_, hr, ?_, ?_⟩
    ·exact Own.closed (by rw [List.length_append, hO.len, hS.len]) (grown_setRow h2).1 (by rw [Nat.add_mul]; simp; omega) hroom (by omega) h5 h1
    ·rw [h6]; exact (grown_setRow h2).2
  obtain ⟨w', hr, h1, h2⟩ := key
  simp only [swp, wpList, Region.wanted, if_true]
  refine .inl ?_
  unfold Oper.wp
  have : (execOp a.eval ⟨some dd, .call ⟨.builtin .append, #[x, y], #[t, t]⟩, T, pos, af, none⟩).run P w = .ok (.value (.slice A (k + m) c)) w' := by
   simp [execOp, resolve, invoke, builtin, ha.eval hx, ha.eval hy, hr]
  rw [this, Oper.upon_value]
  exact (h w' h1 h2).out _ (ha.put hn _)⟩
theorem SW.appendZ {α : Type} {P : Program} {n : Nat} {ops : Array Oper} {Q : Exit → Act → World → Prop} {rest : List Oper} {L : Env} {w : World} {d : Nat} {T : TypeId} {pos : String} {af : Array Edge}
  {t tn e : TypeId} {z : Value} {sz bytes : Nat} {enc : α → List Value} {A : Option Addr} {m c k : Nat} {l : List α} {lk : IntKind} [S : SliceTy P t e sz] [T' : ElemTy P e z sz bytes] [E : Enc enc sz] {x y : Operand}
  {j : Int} (hS : Sl w sz enc A m l) (htn : P.underlying tn = some (.int lk)) (hx : opv L x = some (.slice A m c)) (hy : opv L y = some (.int .i64 j)) (hj : j = (k : Int)) (hn : Nat.blt d n = true) (hk : 0 < k) (hroom : c < m + k) (hb : (m + k) * bytes ≤ 140737488355328) (hm : m + k ≤ 9223372036854775807)
  (h : ∀ g rest' c' w', Ext w w' → w.heap.size ≤ g → Blk w' g e (l.flatMap enc ++ rest') → m * sz + rest'.length = c' * sz → m + k ≤ c' → c' ≤ maxLen → SW P n ops (.eff Q) rest ((d, .slice (some ⟨g, 0, none⟩) (m + k) c') :: L) w') :
  SW P n ops (.eff Q) (⟨some d, .call ⟨.builtin .append, #[x, y], #[t, tn]⟩, T, pos, af, none⟩ :: rest) L w :=
 ⟨fun a ha => by
  subst hj
  obtain ⟨i, hi, hz, hs, hby⟩ := elem_parts P e (z := z) (sz := sz) (bytes := bytes)
  have hp := T'.pos
  have hcells := cells_flatMap hp hS
  have hlen : (l.flatMap enc).length = m * sz := by rw [length_flatMap_enc, hS.len]
  have hold : (Builtin.firstCells i.size m (.slice A m c)).run P w.drew = .ok (l.flatMap enc).toArray w.drew := by
   rw [hs]
   cases A with
   | none =>
    have h0 : m = 0 := by
     rcases Nat.eq_zero_or_pos m with h0 | h0
     ·exact h0
     ·have := hS.base h0; simp at this
    subst h0
    have : l = [] := List.eq_nil_of_length_eq_zero hS.len
    subst this
    simp [Builtin.firstCells]
   | some ad =>
    simp only [Builtin.firstCells]
    rw [← hlen]
    exact run_loadCells_list (P := P) w.drew ad _ (fun j v hv => hcells j v hv)
  have hcap := Room.nextslicecap_le' hroom
  have hfit : Builtin.nextslicecap (m + k) c * i.bytes ≤ 281474976710656 := by
   rw [hby]
   calc Builtin.nextslicecap (m + k) c * bytes ≤ 2 * (m + k) * bytes := Nat.mul_le_mul_right _ hcap
    _ ≤ 281474976710656 := by rw [Nat.mul_assoc]; omega
  have h48 : k * i.bytes ≤ 281474976710656 := by
   rw [hby]
   have : k * bytes ≤ (m + k) * bytes := Nat.mul_le_mul_right _ (by omega)
   omega
  have hr := Lib.run_append_grow_zeros (P := P) w t tn T e i z .i64 lk S.und htn hi hz A m c _ hold k hk (by rw [hs]; exact hp) hroom (by omega) h48 hfit
  simp only [swp, wpList, Region.wanted, if_true]
  refine .inl ?_
  unfold Oper.wp
  have : (execOp a.eval ⟨some d, .call ⟨.builtin .append, #[x, y], #[t, tn]⟩, T, pos, af, none⟩).run P w = .ok (.value (.slice (some ⟨w.heap.size, 0, none⟩) (m + k) (grownCap w (m + k) c e))) (w.drew.alloc (.cells ((l.flatMap enc).toArray ++ Builtin.zeroCells z.cells k ++ Builtin.zeroCells z.cells (grownCap w (m + k) c e - (m + k))) e)) := by
   simp [execOp, resolve, invoke, builtin, ha.eval hx, ha.eval hy, hr]
  rw [this, Oper.upon_value]
  have hg := grownCap_ge w (m + k) c e
  refine (h w.heap.size ((Builtin.zeroCells z.cells k).toList ++ (Builtin.zeroCells z.cells (grownCap w (m + k) c e - (m + k))).toList) _ _ (Ext.trans (Ext.drew w) (Ext.alloc _ _)) (Nat.le_refl _) ?_ ?_ hg (grownCap_le_maxLen w _ _ _ (by simp only [maxLen]; omega))).out _ (ha.put hn _)
  ·have := Blk.new w.drew e (l.flatMap enc ++ ((Builtin.zeroCells z.cells k).toList ++ (Builtin.zeroCells z.cells (grownCap w (m + k) c e - (m + k))).toList))
   have e1 : (l.flatMap enc ++ ((Builtin.zeroCells z.cells k).toList ++ (Builtin.zeroCells z.cells (grownCap w (m + k) c e - (m + k))).toList)).toArray = (l.flatMap enc).toArray ++ Builtin.zeroCells z.cells k ++ Builtin.zeroCells z.cells (grownCap w (m + k) c e - (m + k)) := by
    apply Array.ext'; simp
   rw [e1] at this
   exact this
  ·simp only [List.length_append, Array.length_toList, Go.size_zeroCells, T'.zc]
   rw [← Nat.add_mul, ← Nat.add_mul]
   congr 1; omega⟩
end Go.Proofs.YtfommgdbahemfaaDoor
set_option linter.unusedVariables false
namespace Go.Proofs.YtfommgdbahemfaaDoor
open Go.RowKit
def GrT (w w' : World) (t : TypeId) : Prop := ∃ row, w.grownBy w' row ∧ ∀ k, row = some k → ∃ cs, w.heap[k]? = some (.cells cs t (0, 0))
theorem Own.gr {α : Type} {w w' : World} {lo : Nat} {e : TypeId} {sz : Nat} {enc : α → List Value} {A : Option Addr} {n c : Nat} {l : List α} (h : Own w lo e sz enc A n c l) (hg : w.grownBy w' (ownB A c)) : GrT w w' e := by
 refine ⟨_, hg, fun k hk => ?_⟩
 rcases h.row with ⟨_, rfl⟩ | ⟨hc, g, cur, rfl, _, h2, _⟩
 ·simp [ownB] at hk
 ·simp [ownB, Nat.pos_iff_ne_zero.1 hc] at hk
  subst hk
  exact ⟨cur, h2⟩
theorem Blk.gr {w w' : World} {b : Nat} {t : TypeId} {cs : List Value} (h : Blk w b t cs) (hg : w.grownBy w' (some b)) : GrT w w' t := ⟨_, hg, fun k hk => by cases hk; exact ⟨_, h⟩⟩
theorem Own.grT {α : Type} {w w' : World} {t lo : Nat} {e : TypeId} {sz : Nat} {enc : α → List Value} {A : Option Addr} {n c : Nat} {l : List α} (h : Own w lo e sz enc A n c l) (hG : GrT w w' t) (hne : Nat.beq t e = false) : Own w' lo e sz enc A n c l := by
 obtain ⟨row, hg, hr⟩ := hG
 refine h.grown hg ?_
 rcases h.row with ⟨_, rfl⟩ | ⟨hc, g, cur, rfl, _, h2, _⟩
 ·simp [ownB]
 ·right
  rintro rfl
  obtain ⟨cs, h3⟩ := hr g (by simp [ownB, Nat.pos_iff_ne_zero.1 hc])
  rw [h2] at h3
  injection h3 with h3
  injection h3 with _ h _
  subst h
  simp at hne
theorem Blk.grT {w w' : World} {b t : Nat} {t' : TypeId} {cs : List Value} (h : Blk w b t' cs) (hG : GrT w w' t) (hne : Nat.beq t t' = false) : Blk w' b t' cs := by
 obtain ⟨row, hg, hr⟩ := hG
 refine h.grown hg ?_
 rintro rfl
 obtain ⟨cs, h3⟩ := hr b rfl
 unfold Blk at h
 rw [h] at h3
 injection h3 with h3
 injection h3 with _ h _
 subst h
 simp at hne
theorem Own.lt_size {α : Type} {w : World} {lo : Nat} {e : TypeId} {sz : Nat} {enc : α → List Value} {A : Option Addr} {n c : Nat} {l : List α} (h : Own w lo e sz enc A n c l) : ∀ k, ownB A c = some k → k < w.heap.size := by
 intro k hk
 rcases h.row with ⟨_, rfl⟩ | ⟨hc, g, cur, rfl, _, h2, _⟩
 ·simp [ownB] at hk
 ·simp [ownB, Nat.pos_iff_ne_zero.1 hc] at hk
  subst hk
  exact (Array.getElem?_eq_some_iff.1 h2).1
structure All2 {α β : Type} (R : α → β → Prop) (xs : List α) (ys : List β) : Prop where
 len : xs.length = ys.length
 get : ∀ (i : Nat) (h1 : i < xs.length) (h2 : i < ys.length), R xs[i] ys[i]
theorem All2.mono {α β : Type} {R R' : α → β → Prop} {xs : List α} {ys : List β} (h : All2 R xs ys) (hm : ∀ a b, R a b → R' a b) : All2 R' xs ys := ⟨h.len, fun i h1 h2 => hm _ _ (h.get i h1 h2)⟩
theorem All2.nil {α β : Type} {R : α → β → Prop} : All2 R ([] : List α) ([] : List β) := ⟨rfl, fun i h1 h2 => by simp at h1⟩
theorem All2.snoc {α β : Type} {R : α → β → Prop} {xs : List α} {ys : List β} (h : All2 R xs ys) {x : α} {y : β} (hr : R x y) : All2 R (xs ++ [x]) (ys ++ [y]) := by
 refine ⟨by simp [h.len], fun i h1 h2 => ?_⟩
 have hl := h.len
 by_cases hi : i < xs.length
 ·rw [List.getElem_append_left hi, List.getElem_append_left (by omega)]
  exact h.get i hi (by omega)
 ·have e : i = xs.length := by simp at h1; omega
  subst e
  simp [hl]
  exact hr
structure LRow where
 Cpu : Int
 Zone : Int
 Ty : Int
 Pages : Sli
def encL (r : LRow) : List Value := [.int .i64 r.Cpu, .int .i64 r.Zone, .int .i64 r.Ty, r.Pages.v]
instance : Enc encL 4 := ⟨fun _ => rfl, fun r u hu => by simp [encL, Sli.v] at hu; rcases hu with rfl | rfl | rfl | rfl <;> rfl⟩
structure HRow where
 Zones : Sli
 Mins : Sli
 Cpus : Int
 Lists : Sli
 Live : Sli
def encH (r : HRow) : List Value := [r.Zones.v, r.Mins.v, .int .i64 r.Cpus, r.Lists.v, r.Live.v]
instance : Enc encH 5 := ⟨fun _ => rfl, fun r u hu => by simp [encH, Sli.v] at hu; rcases hu with rfl | rfl | rfl | rfl | rfl <;> rfl⟩
def HRow.zero : HRow := ⟨.nil, .nil, 0, .nil, .nil⟩
def Heap.zero : Heap := ⟨[], [], 0, [], []⟩
structure RdL (w : World) (r : LRow) (l : PList) : Prop where
 cpu : r.Cpu = l.Cpu
 zone : r.Zone = l.Zone
 ty : r.Ty = l.Ty
 pages : Sl w 1 encI r.Pages.A r.Pages.n l.Pages
structure OwnL (w : World) (lo : Nat) (r : LRow) (l : PList) : Prop where
 cpu : r.Cpu = l.Cpu
 zone : r.Zone = l.Zone
 ty : r.Ty = l.Ty
 pages : Own w lo 3 1 encI r.Pages.A r.Pages.n r.Pages.c l.Pages
theorem RdL.ext {w w' : World} {r : LRow} {l : PList} (h : RdL w r l) (hx : Ext w w') : RdL w' r l := ⟨h.cpu, h.zone, h.ty, h.pages.ext hx⟩
theorem OwnL.ext {w w' : World} {lo : Nat} {r : LRow} {l : PList} (h : OwnL w lo r l) (hx : Ext w w') : OwnL w' lo r l := ⟨h.cpu, h.zone, h.ty, h.pages.ext hx⟩
theorem OwnL.low {w : World} {lo lo' : Nat} {r : LRow} {l : PList} (h : OwnL w lo r l) (hl : lo' ≤ lo) : OwnL w lo' r l := ⟨h.cpu, h.zone, h.ty, h.pages.low hl⟩
theorem OwnL.rd {w : World} {lo : Nat} {r : LRow} {l : PList} (h : OwnL w lo r l) : RdL w r l := ⟨h.cpu, h.zone, h.ty, h.pages.sl⟩
theorem OwnL.grT {w w' : World} {t lo : Nat} {r : LRow} {l : PList} (h : OwnL w lo r l) (hG : GrT w w' t) (hne : Nat.beq t 3 = false) : OwnL w' lo r l := ⟨h.cpu, h.zone, h.ty, h.pages.grT hG hne⟩
theorem OwnZ.grT {w w' : World} {t lo : Nat} {r : ZRow} {z : Zone} (h : OwnZ w lo r z) (hG : GrT w w' t) (hne : (Nat.beq t 3 || Nat.beq t 55) = false) : OwnZ w' lo r z := by
 simp only [Bool.or_eq_false_iff] at hne
 exact ⟨h.from_, h.to_, h.free.grT hG hne.2, h.types.grT hG hne.1⟩
structure RdZs (w : World) (s : Sli) (zs : List ZRow) (l : List Zone) : Prop where
 row : Sl w 4 encZ s.A s.n zs
 each : All2 (RdZ w) zs l
structure OwnZs (w : World) (lo : Nat) (s : Sli) (zs : List ZRow) (l : List Zone) : Prop where
 row : Own w lo 25 4 encZ s.A s.n s.c zs
 each : All2 (OwnZ w lo) zs l
structure RdLs (w : World) (s : Sli) (ls : List LRow) (l : List PList) : Prop where
 row : Sl w 4 encL s.A s.n ls
 each : All2 (RdL w) ls l
structure OwnLs (w : World) (lo : Nat) (s : Sli) (ls : List LRow) (l : List PList) : Prop where
 row : Own w lo 84 4 encL s.A s.n s.c ls
 each : All2 (OwnL w lo) ls l
section
variable {w w' : World} {lo lo' t : Nat} {s : Sli} {zs : List ZRow} {z : List Zone} {ls : List LRow} {l : List PList}
theorem RdZs.ext (h : RdZs w s zs z) (hx : Ext w w') : RdZs w' s zs z := ⟨h.row.ext hx, h.each.mono fun _ _ h => h.ext hx⟩
theorem RdLs.ext (h : RdLs w s ls l) (hx : Ext w w') : RdLs w' s ls l := ⟨h.row.ext hx, h.each.mono fun _ _ h => h.ext hx⟩
theorem OwnZs.ext (h : OwnZs w lo s zs z) (hx : Ext w w') : OwnZs w' lo s zs z := ⟨h.row.ext hx, h.each.mono fun _ _ h => h.ext hx⟩
theorem OwnLs.ext (h : OwnLs w lo s ls l) (hx : Ext w w') : OwnLs w' lo s ls l := ⟨h.row.ext hx, h.each.mono fun _ _ h => h.ext hx⟩
theorem OwnZs.low (h : OwnZs w lo s zs z) (hl : lo' ≤ lo) : OwnZs w lo' s zs z := ⟨h.row.low hl, h.each.mono fun _ _ h => h.low hl⟩
theorem OwnLs.low (h : OwnLs w lo s ls l) (hl : lo' ≤ lo) : OwnLs w lo' s ls l := ⟨h.row.low hl, h.each.mono fun _ _ h => h.low hl⟩
theorem OwnZs.rd (h : OwnZs w lo s zs z) : RdZs w s zs z := ⟨h.row.sl, h.each.mono fun _ _ h => h.rd⟩
theorem OwnLs.rd (h : OwnLs w lo s ls l) : RdLs w s ls l := ⟨h.row.sl, h.each.mono fun _ _ h => h.rd⟩
theorem OwnZs.grT (h : OwnZs w lo s zs z) (hG : GrT w w' t) (hne : (Nat.beq t 25 || (Nat.beq t 3 || Nat.beq t 55)) = false) : OwnZs w' lo s zs z := by
 rw [Bool.or_eq_false_iff] at hne
 exact ⟨h.row.grT hG hne.1, h.each.mono fun _ _ h => h.grT hG hne.2⟩
theorem OwnLs.grT (h : OwnLs w lo s ls l) (hG : GrT w w' t) (hne : (Nat.beq t 84 || Nat.beq t 3) = false) : OwnLs w' lo s ls l := by
 rw [Bool.or_eq_false_iff] at hne
 exact ⟨h.row.grT hG hne.1, h.each.mono fun _ _ h => h.grT hG hne.2⟩
theorem OwnZs.nil (w : World) (lo : Nat) : OwnZs w lo .nil [] [] := ⟨Own.nil_ _ _ _ _ _ _, .nil⟩
theorem OwnLs.nil (w : World) (lo : Nat) : OwnLs w lo .nil [] [] := ⟨Own.nil_ _ _ _ _ _ _, .nil⟩
theorem RdZs.len (h : RdZs w s zs z) : zs.length = s.n ∧ z.length = s.n := ⟨h.row.len, by rw [← h.each.len, h.row.len]⟩
theorem RdLs.len (h : RdLs w s ls l) : ls.length = s.n ∧ l.length = s.n := ⟨h.row.len, by rw [← h.each.len, h.row.len]⟩
end
structure RdH (w : World) (r : HRow) (h : Heap) : Prop where
 cpus : r.Cpus = h.Cpus
 mins : Sl w 1 encI r.Mins.A r.Mins.n h.Mins
 live : Sl w 3 encBk r.Live.A r.Live.n h.Live
 zones : ∃ zs, RdZs w r.Zones zs h.Zones
 lists : ∃ ls, RdLs w r.Lists ls h.Lists
structure OwnH (w : World) (lo : Nat) (r : HRow) (h : Heap) : Prop where
 cpus : r.Cpus = h.Cpus
 mins : Own w lo 3 1 encI r.Mins.A r.Mins.n r.Mins.c h.Mins
 live : Own w lo 55 3 encBk r.Live.A r.Live.n r.Live.c h.Live
 zones : ∃ zs, OwnZs w lo r.Zones zs h.Zones
 lists : ∃ ls, OwnLs w lo r.Lists ls h.Lists
section
variable {w w' : World} {lo lo' t : Nat} {r : HRow} {h : Heap}
theorem RdH.ext (a : RdH w r h) (hx : Ext w w') : RdH w' r h := by
 obtain ⟨zs, hz⟩ := a.zones
 obtain ⟨ls, hl⟩ := a.lists
 exact ⟨a.cpus, a.mins.ext hx, a.live.ext hx, ⟨zs, hz.ext hx⟩, ⟨ls, hl.ext hx⟩⟩
theorem OwnH.ext (a : OwnH w lo r h) (hx : Ext w w') : OwnH w' lo r h := by
 obtain ⟨zs, hz⟩ := a.zones
 obtain ⟨ls, hl⟩ := a.lists
 exact ⟨a.cpus, a.mins.ext hx, a.live.ext hx, ⟨zs, hz.ext hx⟩, ⟨ls, hl.ext hx⟩⟩
theorem OwnH.low (a : OwnH w lo r h) (hl' : lo' ≤ lo) : OwnH w lo' r h := by
 obtain ⟨zs, hz⟩ := a.zones
 obtain ⟨ls, hl⟩ := a.lists
 exact ⟨a.cpus, a.mins.low hl', a.live.low hl', ⟨zs, hz.low hl'⟩, ⟨ls, hl.low hl'⟩⟩
theorem OwnH.rd (a : OwnH w lo r h) : RdH w r h := by
 obtain ⟨zs, hz⟩ := a.zones
 obtain ⟨ls, hl⟩ := a.lists
 exact ⟨a.cpus, a.mins.sl, a.live.sl, ⟨zs, hz.rd⟩, ⟨ls, hl.rd⟩⟩
theorem OwnH.zero (w : World) (lo : Nat) : OwnH w lo .zero .zero := ⟨rfl, Own.nil_ _ _ _ _ _ _, Own.nil_ _ _ _ _ _ _, ⟨[], .nil _ _⟩, ⟨[], .nil _ _⟩⟩
end
structure Heap.small (h : Heap) : Prop where
 zones : h.Zones.length * 64 ≤ 140737488355328
 mins : h.Mins.length * 8 ≤ 140737488355328
 lists : h.Lists.length * 48 ≤ 140737488355328
 live : h.Live.length * 24 ≤ 140737488355328
 free : ∀ z ∈ h.Zones, z.Free.length * 24 ≤ 140737488355328 ∧ z.Types.length * 8 ≤ 140737488355328
 pages : ∀ l ∈ h.Lists, l.Pages.length * 8 ≤ 140737488355328
end Go.Proofs.YtfommgdbahemfaaDoor
set_option linter.unusedVariables false
namespace Go.Proofs.YtfommgdbahemfaaDoor
open Go.RowKit
set_option maxHeartbeats 4000000 in
theorem DeleteBlock_ans (A : Option Addr) (n c lo : Nat) (l : List Block) (w : World) (hO : Own w lo 55 3 encBk A n c l) (i : Nat) (hi : i < n) (hn : n ≤ 1000000000000000000) (hlo : lo ≤ w.heap.size) :
  AnsX Tryd.prog 22 [.slice A n c, .int .i64 (i : Int), .int .i64 ((i + 1 : Nat) : Int)] w fun v w' => v = .slice A (n - 1) c ∧ Own w' lo 55 3 encBk A (n - 1) c (l.eraseIdx i) ∧ w.grownBy w' (ownB A c) := by
 refine ansx_of Tryd.func22 rfl Tryd.ntmps22 rfl ?_
 have hle := hO.le
 have hll := hO.len
 have hA := hO.sl.base
 have hg0 : w.grownBy w (ownB A c) := World.grownBy.refl _ _
 repeat' (first | (show CW _ _ _ _ _ _; first | refine CW.seq ?_ | refine CW.region ?_ | refine CW.condd_f rfl (by omega) ?_ | refine CW.skip ?_) | (show Post _ _ _ _ _; refine Post.seq ?_) | refine SW.nil ?_ | refine SW.pure rfl rfl ?_ | (show SW _ _ _ _ (⟨_, Op.call ⟨.builtin .len, _, _⟩, _, _, _, none⟩ :: _) _ _; refine SW.st (st_len rfl) rfl ?_) | (refine SW.st (st_slice3 (i := i) (j := i + 1) (k := n) rfl rfl rfl rfl (by omega) (by omega) (by omega)) rfl ?_))
 all_goals first | (exfalso; omega) | skip
 have hw := Ext.refl w
 have e0 : i + (n - (i + 1)) = n - 1 := by omega
 have el : l.take i ++ l.drop (i + 1) = l.eraseIdx i := by rw [List.eraseIdx_eq_take_drop_succ]
 refine CW.any 6 mixed (rb_tail (by kernel_rfl)) rfl fun w1 hw1 hRB => ?_
 replace hw := Ext.trans hw hw1; replace hO := hO.ext hw1; clear hw1
 refine SA.take 0 hRB rfl (by kernel_rfl) (by kernel_rfl) rfl ?_
 repeat (refine SW.pure rfl rfl ?_)
 refine SW.tknil ?_
 refine SA.take 1 hRB rfl (by kernel_rfl) (by kernel_rfl) rfl ?_
 repeat (refine SW.pure rfl rfl ?_)
 refine SW.tknil ?_
 refine SA.take 2 hRB rfl (by kernel_rfl) (by kernel_rfl) rfl ?_
 repeat ((refine SW.st (st_sliceHi (k := i) rfl rfl (by omega)) rfl ?_))
 refine SW.tknil ?_
 refine SA.take 3 hRB rfl (by kernel_rfl) (by kernel_rfl) rfl ?_
 repeat (refine SW.pure rfl rfl ?_)
 refine SW.tknil ?_
 refine SA.take 4 hRB rfl (by kernel_rfl) (by kernel_rfl) rfl ?_
 repeat (refine SW.pure rfl rfl ?_)
 refine SW.tknil ?_
 refine SA.take 5 hRB rfl (by kernel_rfl) (by kernel_rfl) rfl ?_
 repeat ((refine SW.st (st_sliceLo (k := i + 1) rfl rfl (by omega) (by omega)) rfl ?_))
 refine SW.tknil ?_
 refine SA.done (by kernel_rfl) ?_
 refine SW.appendIn (hO.pre (i := i) (by omega)) (hO.sl.drop (i + 1) c (by omega) (by omega)) (by omega) rfl rfl rfl fun w2 hO2 hg => ?_
 rw [e0, el] at hO2
 rw [e0]
 have hG1 := (hw.gr (ownB A c))
 repeat' (first | (show CW _ _ _ _ _ _; first | refine CW.seq ?_ | refine CW.region ?_) | (show Post _ _ _ _ _; first | refine Post.seq ?_ | refine Post.np ?_) | refine SW.nil ?_ | refine SW.pure rfl rfl ?_ | (show SW _ _ _ _ (⟨_, Op.call ⟨.builtin .len, _, _⟩, _, _, _, none⟩ :: _) _ _; refine SW.st (st_len rfl) rfl ?_) | (refine SW.st (st_sliceLH (i := n - 1) (j := n) rfl rfl rfl (by omega) (by omega)) rfl ?_))
 obtain ⟨g, rest, rfl, h1, h2, h3, h4, h5, h6⟩ := hO2.opened (by omega)
 have hfl : ((l.eraseIdx i).flatMap encBk).length = (n - 1) * 3 := by rw [length_flatMap_enc, hO2.len]
 refine SW.clear ((n - 1) * 3) h2 rfl (by rw [List.length_append, hfl]; omega) (fun h0 => ?_) (by decide) fun w3 cs hcs hB hg3 => ?_
 ·rw [if_neg (by omega)]; simp [addr_of]
 ·have e7 := lay_mid ((l.eraseIdx i).flatMap encBk) (rest.take ((n - (n - 1)) * 3)) (rest.drop ((n - (n - 1)) * 3)) cs (by rw [hcs]; simp; omega) (o := (n - 1) * 3) hfl.symm
  rw [List.append_assoc (List.flatMap _ _), List.take_append_drop] at e7
  rw [e7, List.append_assoc] at hB
  have hO3 := Own.closed (l := l.eraseIdx i) hO2.len hB (by rw [List.length_append, hcs]; simp; omega) h4 (by omega) h5 h1
  rw [← h6] at hg3
  have hgg := grown_trans (grown_trans hG1 hg (.inl rfl)) hg3 (.inl rfl)
  repeat' (first | (show CW _ _ _ _ _ _; first | refine CW.seq ?_ | refine CW.region ?_ | refine CW.ret ?_) | (show Post _ _ _ _ _; refine Post.seq ?_) | refine SW.nil ?_ | refine SW.pure rfl rfl ?_)
  exact Post.ret1 rfl rfl ⟨_, rfl, rfl, hO3, hgg⟩
set_option maxHeartbeats 4000000 in
theorem InsertBlock_ans (A : Option Addr) (n c lo : Nat) (l : List Block) (w : World) (hO : Own w lo 55 3 encBk A n c l) (i : Nat) (hi : i ≤ n) (x : Block) (b : Nat) (hB : Blk w b 55 (encBk x)) (hne : ownB A c ≠ some b) (hn : (n + 1) * 24 ≤ 140737488355328) (hlo : lo ≤ w.heap.size) :
  AnsX Tryd.prog 25 [.slice A n c, .int .i64 (i : Int), .slice (some ⟨b, 0, none⟩) 1 1] w fun v w' => ∃ A' c', v = .slice A' (n + 1) c' ∧ Own w' lo 55 3 encBk A' (n + 1) c' (insAt l i x) ∧ w.grownBy w' (ownB A c) := by
 refine ansx_of Tryd.func25 rfl Tryd.ntmps25 rfl ?_
 have hle := hO.le
 have hll := hO.len
 have hA := hO.sl.base
 have hw := Ext.refl w
 have hx1 : Sl w 3 encBk (some ⟨b, 0, none⟩) 1 [x] := Blk.sl1 hB
 have hxl : (encBk x).length = 3 := rfl
 have hfl : ∀ q : List Block, (q.flatMap encBk).length = q.length * 3 := fun q => length_flatMap_enc q
 have hone : ∀ (q : List Block) (v : Value), v ∈ q.flatMap encBk → v.oneCell' = true := fun q v hv => by
  obtain ⟨u, _, hu⟩ := List.mem_flatMap.1 hv
  exact Enc.one (enc := encBk) u v hu
 by_cases hin : i = n
 ·subst hin
  repeat' (first | (show CW _ _ _ _ _ _; first | refine CW.seq ?_ | refine CW.region ?_ | refine CW.condd_t rfl (by omega) ?_ | refine CW.condd_f rfl (by omega) ?_ | refine CW.skip ?_) | (show Post _ _ _ _ _; refine Post.seq ?_) | refine SW.nil ?_ | refine SW.pure rfl rfl ?_ | (show SW _ _ _ _ (⟨_, Op.call ⟨.builtin .len, _, _⟩, _, _, _, none⟩ :: _) _ _; refine SW.st (st_len rfl) rfl ?_) | (refine SW.st (st_sliceLo (k := i) rfl rfl (by omega) (by omega)) rfl ?_))
  all_goals first | (exfalso; omega) | skip
  refine SW.append hO hx1 hlo rfl rfl rfl (by omega) (by omega) fun A2 c2 w2 hO2 hg => ?_
  repeat' (first | (show CW _ _ _ _ _ _; refine CW.ret ?_) | (show Post _ _ _ _ _; first | refine Post.seq ?_ | refine Post.seq_ret ?_) | refine SW.nil ?_ | refine SW.pure rfl rfl ?_)
  refine Post.ret1 rfl rfl ⟨_, rfl, A2, c2, rfl, ?_, hg⟩
  have e : insAt l i x = l ++ [x] := by unfold insAt; rw [List.take_of_length_le (by omega), List.drop_eq_nil_of_le (by omega)]; simp
  rw [e]; exact hO2
 ·by_cases hroom : n + 1 ≤ c
  ·obtain ⟨g, rest, rfl, h1, h2, h3, h4, h5, h6⟩ := hO.opened (by omega)
   have hgb : g ≠ b := fun e => hne (by rw [h6, e])
   have es : l.flatMap encBk ++ rest = (l.take i).flatMap encBk ++ ((l.drop i).flatMap encBk ++ rest) := by rw [← List.append_assoc, ← List.flatMap_append, List.take_append_drop]
   have e1 : ((l.take i).flatMap encBk).length = i * 3 := by rw [hfl]; simp; omega
   have e2 : ((l.drop i).flatMap encBk).length = (n - i) * 3 := by rw [hfl]; simp [hll]
   have hsrc := hO.sl.drop i c (by omega) (by omega)
   rw [if_neg (by omega)] at hsrc
   rw [es] at h2
   have hov : ∀ w', Ext w w' → (Extern.SlicesOverlaps.overlaps #[22, 22] #[4] #[.slice (some ⟨b, 0, none⟩) 1 1, .slice (if c = i + 1 then (some ⟨g, 0, none⟩) else (some (⟨g, 0, none⟩ : Addr)).map (·.add ((i + 1) * 3))) (n + 1 - (i + 1)) (c - (i + 1))]).run Tryd.prog w' = .ok (.bool false) w' := fun w' hx => by
    rw [if_neg (by omega), Option.map_some, addr_of]
    have b1 := hB.ext hx
    have b2 := h2.ext hx
    unfold Blk at b1 b2
    exact Lib.run_overlaps_apart w' 22 4 55 (SliceTy.und (t := 22)) 3 (fun w0 => run_sizeOf (SliceTy.size (t := 22)) w0) ⟨b, 0, none⟩ ⟨g, (i + 1) * 3, none⟩ 1 1 _ _ (fun e => hgb e.symm) 55 55 (encBk x).toArray.size ((l.take i).flatMap encBk ++ ((l.drop i).flatMap encBk ++ rest)).toArray.size
     (by simp only [World.shape?, b1]) (by simp only [World.shape?, b2]) (by simp [e1, e2]; omega) (by simp [World.frozen?, b1]) (by simp [World.frozen?, b1])
   repeat' (first | (show CW _ _ _ _ _ _; first | refine CW.seq ?_ | refine CW.region ?_ | refine CW.condd_f rfl (by omega) ?_ | refine CW.condt rfl ?_ | refine CW.skip ?_) | (show Post _ _ _ _ _; refine Post.seq ?_) | refine SW.nil ?_ | refine SW.pure rfl rfl ?_ | (show SW _ _ _ _ (⟨_, Op.binOp _ _ _ _ _, _, _, _, none⟩ :: _) _ _; refine SW.st (st_add rfl rfl (by omega) (by omega)) rfl ?_) | (show SW _ _ _ _ (⟨_, Op.call ⟨.builtin .len, _, _⟩, _, _, _, none⟩ :: _) _ _; refine SW.st (st_len rfl) rfl ?_) | (show SW _ _ _ _ (⟨_, Op.call ⟨.builtin .cap, _, _⟩, _, _, _, none⟩ :: _) _ _; refine SW.st (st_cap rfl) rfl ?_) | (refine SW.st (st_sliceLo (k := i) rfl rfl (by omega) (by omega)) rfl ?_) | (refine SW.st (st_sliceHi (k := n + 1) rfl rfl (by omega)) rfl ?_) | (refine SW.st (st_sliceLo (k := i + 1) rfl rfl (by omega) (by omega)) rfl ?_) | (refine SW.entry Tryd.func62 (by kernel_rfl) (by kernel_rfl) (by kernel_rfl) (e := Extern.SlicesOverlaps.overlaps #[22, 22] #[4]) (by kernel_rfl) rfl rfl (hov _ hw) ?_))
   all_goals first | (exfalso; omega) | skip
   have hsz : ((n - i) + 1) * 3 ≤ ((l.drop i).flatMap encBk ++ rest).length := by rw [List.length_append, e2]; omega
   have e4 : (l.drop i).flatMap encBk ++ rest = ((l.drop i).flatMap encBk ++ rest).take 3 ++ (((l.drop i).flatMap encBk ++ rest).drop 3).take ((n - i) * 3) ++ ((l.drop i).flatMap encBk ++ rest).drop (3 + (n - i) * 3) := by
    rw [List.append_assoc, ← List.drop_drop, List.take_append_drop, List.take_append_drop]
   generalize hDD : ((l.drop i).flatMap encBk ++ rest).take 3 = D1 at e4
   generalize hDE : (((l.drop i).flatMap encBk ++ rest).drop 3).take ((n - i) * 3) = D2 at e4
   generalize hDF : ((l.drop i).flatMap encBk ++ rest).drop (3 + (n - i) * 3) = D3 at e4
   have f1 : D1.length = 3 := by rw [← hDD]; simp only [List.length_take]; omega
   have f2 : D2.length = (n - i) * 3 := by rw [← hDE]; simp only [List.length_take, List.length_drop]; omega
   have f3 : D3.length + 3 = rest.length := by rw [← hDF]; simp only [List.length_drop, List.length_append, e2]; omega
   rw [e4] at h2
   refine CW.any 8 mixed (rb_tail (by kernel_rfl)) rfl fun w1 hw1 hRB => ?_
   replace hw := Ext.trans hw hw1; replace hO := hO.ext hw1; replace hB := hB.ext hw1; replace h2 := h2.ext hw1; clear hw1
   refine SA.take 0 hRB rfl (by kernel_rfl) (by kernel_rfl) rfl ?_
   repeat (refine SW.pure rfl rfl ?_)
   refine SW.tknil ?_
   refine SA.take 1 hRB rfl (by kernel_rfl) (by kernel_rfl) rfl ?_
   repeat (refine SW.pure rfl rfl ?_)
   refine SW.tknil ?_
   refine SA.take 2 hRB rfl (by kernel_rfl) (by kernel_rfl) rfl ?_
   repeat (refine SW.pure rfl rfl ?_)
   refine SW.tknil ?_
   refine SA.take 3 hRB rfl (by kernel_rfl) (by kernel_rfl) rfl ?_
   repeat ((show SW _ _ _ _ (⟨_, Op.binOp _ _ _ _ _, _, _, _, none⟩ :: _) _ _; refine SW.st (st_add rfl rfl (by omega) (by omega)) rfl ?_))
   refine SW.tknil ?_
   refine SA.take 4 hRB rfl (by kernel_rfl) (by kernel_rfl) rfl ?_
   repeat ((refine SW.st (st_sliceLo (k := i + 1) rfl rfl (by omega) (by omega)) rfl ?_))
   refine SW.tknil ?_
   refine SA.take 5 hRB rfl (by kernel_rfl) (by kernel_rfl) rfl ?_
   repeat (refine SW.pure rfl rfl ?_)
   refine SW.tknil ?_
   refine SA.take 6 hRB rfl (by kernel_rfl) (by kernel_rfl) rfl ?_
   repeat (refine SW.pure rfl rfl ?_)
   refine SW.tknil ?_
   refine SA.take 7 hRB rfl (by kernel_rfl) (by kernel_rfl) rfl ?_
   repeat ((refine SW.st (st_sliceLo (k := i) rfl rfl (by omega) (by omega)) rfl ?_))
   refine SW.tknil ?_
   refine SA.done (by kernel_rfl) ?_
   refine SW.copy (k := n - i) ((i + 1) * 3) ((l.drop i).flatMap encBk) h2 rfl rfl rfl (by omega) e2 (by simp only [List.length_append, e1, e2, f1, f2]; omega) (fun h0 => ⟨by rw [if_neg (by omega)]; simp [addr_of], (⟨g, 0, none⟩ : Addr).add (i * 3), by rw [if_neg (by omega)]; rfl, fun j v hv => cells_flatMap (by omega) (hsrc.ext hw) j v hv⟩) (hone _) fun w3 h2' hg3 => ?_
   have g1 := lay_mid ((l.take i).flatMap encBk ++ D1) D2 D3 ((l.drop i).flatMap encBk) (by rw [e2, f2]) (o := (i + 1) * 3) (by rw [List.length_append, e1, f1]; omega)
   have g0 : (l.take i).flatMap encBk ++ (D1 ++ D2 ++ D3) = (l.take i).flatMap encBk ++ D1 ++ D2 ++ D3 := by simp only [List.append_assoc]
   rw [g0, g1] at h2'
   have hG1 := grown_trans (hw.gr (ownB (some ⟨g, 0, none⟩) c)) hg3 (.inl h6.symm)
   have hB3 := hB.grown hg3 (by simpa using fun e => hgb e.symm)
   repeat' (first | (show CW _ _ _ _ _ _; first | refine CW.seq ?_ | refine CW.region ?_) | (show Post _ _ _ _ _; first | refine Post.seq ?_ | refine Post.np ?_) | refine SW.nil ?_ | refine SW.pure rfl rfl ?_ | (refine SW.st (st_sliceLo (k := i) rfl rfl (by omega) (by omega)) rfl ?_))
   refine SW.copy (k := 1) (i * 3) (encBk x) h2' rfl rfl rfl (by omega) hxl (by simp only [List.length_append, e1, e2, f1, hxl]; omega) (fun h0 => ⟨by rw [if_neg (by omega)]; simp [addr_of], ⟨b, 0, none⟩, rfl, fun j v hv => hB3.cell hv⟩) (Enc.one (enc := encBk) x) fun w4 h2'' hg4 => ?_
   have g2 := lay_mid ((l.take i).flatMap encBk) D1 ((l.drop i).flatMap encBk ++ D3) (encBk x) (by rw [hxl, f1]) (o := i * 3) e1.symm
   have g3 : (l.take i).flatMap encBk ++ D1 ++ (l.drop i).flatMap encBk ++ D3 = (l.take i).flatMap encBk ++ D1 ++ ((l.drop i).flatMap encBk ++ D3) := by simp only [List.append_assoc]
   have g4 : (l.take i).flatMap encBk ++ encBk x ++ ((l.drop i).flatMap encBk ++ D3) = (insAt l i x).flatMap encBk ++ D3 := by unfold insAt; simp only [List.flatMap_append, List.flatMap_cons, List.flatMap_nil, List.append_nil, List.append_assoc]
   rw [g3, g2, g4] at h2''
   have hO' := Own.closed (n := n + 1) (c := c) (l := insAt l i x) (by unfold insAt; simp; omega) h2'' (by omega) hroom (by omega) h5 h1
   have hG2 := grown_trans hG1 hg4 (.inl h6.symm)
   repeat' (first | (show CW _ _ _ _ _ _; first | refine CW.seq ?_ | refine CW.region ?_ | refine CW.ret ?_) | (show Post _ _ _ _ _; first | refine Post.seq ?_ | refine Post.seq_ret ?_) | refine SW.nil ?_ | refine SW.pure rfl rfl ?_)
   exact Post.ret1 rfl rfl ⟨_, rfl, _, _, rfl, hO', hG2⟩
  ·have hcn : c = n := by omega
   have hsrc := hO.sl.drop i c (by omega) (by omega)
   have hpre := hO.sl.pre (i := i) (by omega)
   repeat' (first | (show CW _ _ _ _ _ _; first | refine CW.seq ?_ | refine CW.region ?_ | refine CW.condd_t rfl (by omega) ?_ | refine CW.condd_f rfl (by omega) ?_ | refine CW.skip ?_) | (show Post _ _ _ _ _; refine Post.seq ?_) | refine SW.nil ?_ | refine SW.pure rfl rfl ?_ | (show SW _ _ _ _ (⟨_, Op.binOp _ _ _ _ _, _, _, _, none⟩ :: _) _ _; first | refine SW.st (st_add rfl rfl (by omega) (by omega)) rfl ?_ | refine SW.st (st_sub rfl rfl (by omega) (by omega)) rfl ?_) | (show SW _ _ _ _ (⟨_, Op.call ⟨.builtin .len, _, _⟩, _, _, _, none⟩ :: _) _ _; refine SW.st (st_len rfl) rfl ?_) | (show SW _ _ _ _ (⟨_, Op.call ⟨.builtin .cap, _, _⟩, _, _, _, none⟩ :: _) _ _; refine SW.st (st_cap rfl) rfl ?_) | (refine SW.st (st_sliceLo (k := i) rfl rfl (by omega) (by omega)) rfl ?_) | (refine SW.st (st_sliceHi (k := i) rfl rfl (by omega)) rfl ?_))
   all_goals first | (exfalso; omega) | skip
   refine SW.appendZ (k := n + 1 - i) hpre Tryd.underlying3 rfl rfl (by omega) rfl (by omega) (by omega) (by omega) (by omega) fun g rest c2 w2 hw2 hg2 h2 h3 h4 h5 => ?_
   have e1 : ((l.take i).flatMap encBk).length = i * 3 := by rw [hfl]; simp; omega
   have e2 : ((l.drop i).flatMap encBk).length = (n - i) * 3 := by rw [hfl]; simp [hll]
   have hsz : ((n - i) + 1) * 3 ≤ rest.length := by omega
   have e4 : rest = rest.take 3 ++ (rest.drop 3).take ((n - i) * 3) ++ rest.drop (3 + (n - i) * 3) := by
    rw [List.append_assoc, ← List.drop_drop, List.take_append_drop, List.take_append_drop]
   generalize hDD : rest.take 3 = D1 at e4
   generalize hDE : (rest.drop 3).take ((n - i) * 3) = D2 at e4
   generalize hDF : rest.drop (3 + (n - i) * 3) = D3 at e4
   have f1 : D1.length = 3 := by rw [← hDD]; simp only [List.length_take]; omega
   have f2 : D2.length = (n - i) * 3 := by rw [← hDE]; simp only [List.length_take, List.length_drop]; omega
   have f3 : D3.length + ((n - i) + 1) * 3 = rest.length := by rw [← hDF]; simp only [List.length_drop]; omega
   rw [e4] at h2
   have hrow : ownB A c ≠ some g := fun e => by have := hO.lt_size _ e; omega
   have hgb : b ≠ g := by have := hB.lt; omega
   replace hsrc := hsrc.ext hw2
   replace hB := hB.ext hw2
   replace hw := Ext.trans hw hw2
   repeat' (first | (show CW _ _ _ _ _ _; first | refine CW.seq ?_ | refine CW.region ?_) | (show Post _ _ _ _ _; refine Post.seq ?_) | refine SW.nil ?_ | refine SW.pure rfl rfl ?_ | (refine SW.st (st_sliceLo (k := i) rfl rfl (by omega) (by omega)) rfl ?_))
   refine SW.copy (k := 1) (i * 3) (encBk x) h2 rfl rfl rfl (by omega) hxl (by simp only [List.length_append, e1, f1, f2, hxl]; omega) (fun h0 => ⟨by rw [if_neg (by omega)]; simp [addr_of], ⟨b, 0, none⟩, rfl, fun j v hv => hB.cell hv⟩) (Enc.one (enc := encBk) x) fun w3 h2' hg3 => ?_
   have g2 := lay_mid ((l.take i).flatMap encBk) D1 (D2 ++ D3) (encBk x) (by rw [hxl, f1]) (o := i * 3) e1.symm
   have g3 : (l.take i).flatMap encBk ++ (D1 ++ D2 ++ D3) = (l.take i).flatMap encBk ++ D1 ++ (D2 ++ D3) := by simp only [List.append_assoc]
   rw [g3, g2] at h2'
   have hX3 : Ext w w3 := hw.own hg2 hg3
   have hsrc3 : Sl w3 3 encBk (if c = i then A else A.map (·.add (i * 3))) (n - i) (l.drop i) := (hO.sl.drop i c (by omega) (by omega)).ext hX3
   replace hw := hX3
   repeat' (first | (show CW _ _ _ _ _ _; refine CW.seq ?_) | (show Post _ _ _ _ _; refine Post.seq ?_) | refine SW.nil ?_)
   refine CW.any 8 mixed (rb_tail (by kernel_rfl)) rfl fun w1 hw1 hRB => ?_
   replace hw := Ext.trans hw hw1; replace h2' := h2'.ext hw1; replace hsrc3 := hsrc3.ext hw1; clear hw1
   refine SA.take 0 hRB rfl (by kernel_rfl) (by kernel_rfl) rfl ?_
   repeat (refine SW.pure rfl rfl ?_)
   refine SW.tknil ?_
   refine SA.take 1 hRB rfl (by kernel_rfl) (by kernel_rfl) rfl ?_
   repeat (refine SW.pure rfl rfl ?_)
   refine SW.tknil ?_
   refine SA.take 2 hRB rfl (by kernel_rfl) (by kernel_rfl) rfl ?_
   repeat (refine SW.pure rfl rfl ?_)
   refine SW.tknil ?_
   refine SA.take 3 hRB rfl (by kernel_rfl) (by kernel_rfl) rfl ?_
   repeat ((show SW _ _ _ _ (⟨_, Op.binOp _ _ _ _ _, _, _, _, none⟩ :: _) _ _; refine SW.st (st_add rfl rfl (by omega) (by omega)) rfl ?_))
   refine SW.tknil ?_
   refine SA.take 4 hRB rfl (by kernel_rfl) (by kernel_rfl) rfl ?_
   repeat ((refine SW.st (st_sliceLo (k := i + 1) rfl rfl (by omega) (by omega)) rfl ?_))
   refine SW.tknil ?_
   refine SA.take 5 hRB rfl (by kernel_rfl) (by kernel_rfl) rfl ?_
   repeat (refine SW.pure rfl rfl ?_)
   refine SW.tknil ?_
   refine SA.take 6 hRB rfl (by kernel_rfl) (by kernel_rfl) rfl ?_
   repeat (refine SW.pure rfl rfl ?_)
   refine SW.tknil ?_
   refine SA.take 7 hRB rfl (by kernel_rfl) (by kernel_rfl) rfl ?_
   repeat ((refine SW.st (st_sliceLo (k := i) rfl rfl (by omega) (by omega)) rfl ?_))
   refine SW.tknil ?_
   refine SA.done (by kernel_rfl) ?_
   refine SW.copy (k := n - i) ((i + 1) * 3) ((l.drop i).flatMap encBk) h2' rfl rfl rfl (by omega) e2 (by simp only [List.length_append, e1, e2, f2, hxl]; omega) (fun h0 => ⟨by rw [if_neg (by omega)]; simp [addr_of], (if c = i then A else A.map (·.add (i * 3))).getD default, ?_, fun j v hv => cells_flatMap (by omega) hsrc3 j v hv⟩) (hone _) fun w4 h2'' hg4 => ?_
   ·obtain ⟨a, ha⟩ := Option.isSome_iff_exists.1 (hsrc3.base h0)
    rw [ha]; rfl
   ·have g4 := lay_mid ((l.take i).flatMap encBk ++ encBk x) D2 D3 ((l.drop i).flatMap encBk) (by rw [e2, f2]) (o := (i + 1) * 3) (by rw [List.length_append, e1, hxl]; omega)
    have g5 : (l.take i).flatMap encBk ++ encBk x ++ (D2 ++ D3) = (l.take i).flatMap encBk ++ encBk x ++ D2 ++ D3 := by simp only [List.append_assoc]
    have g6 : (l.take i).flatMap encBk ++ encBk x ++ (l.drop i).flatMap encBk ++ D3 = (insAt l i x).flatMap encBk ++ D3 := by unfold insAt; simp only [List.flatMap_append, List.flatMap_cons, List.flatMap_nil, List.append_nil, List.append_assoc]
    rw [g5, g4, g6] at h2''
    have hO' := Own.closed (n := n + 1) (c := c2) (lo := lo) (l := insAt l i x) (by unfold insAt; simp; omega) h2'' (by omega) (by omega) (by omega) h5 (by omega)
    have hw4 : Ext w w4 := hw.own hg2 hg4
    have e9 : i + (n + 1 - i) = n + 1 := by omega
    repeat' (first | (show CW _ _ _ _ _ _; first | refine CW.seq ?_ | refine CW.region ?_ | refine CW.ret ?_) | (show Post _ _ _ _ _; first | refine Post.seq ?_ | refine Post.seq_ret ?_ | refine Post.np ?_) | refine SW.nil ?_ | refine SW.pure rfl rfl ?_)
    rw [e9]
    exact Post.ret1 rfl rfl ⟨_, rfl, _, _, rfl, hO', hw4.gr _⟩
end Go.Proofs.YtfommgdbahemfaaDoor
