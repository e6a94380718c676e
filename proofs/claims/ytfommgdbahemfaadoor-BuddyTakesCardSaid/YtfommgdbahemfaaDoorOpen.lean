/-
  How an argument's reading is opened to what the contracts ask.
-/
import Derived.Test.YtfommgdbahemfaaDoorLaw
import Derived.Test.YtfommgdbahemfaaDoorMem
import Derived.Test.YtfommgdbahemfaaDoorR2
import Derived.Test.YtfommgdbahemfaaDoorC1
set_option linter.unusedVariables false
set_option maxRecDepth 100000
namespace Go.Proofs.YtfommgdbahemfaaDoor
open Go.ChangeShapes Go.WideShapes Go.ChangeAt Go.RowKit Go.Deep Go.Joins

def in64 (z : Int) : Prop := -9223372036854775808 ≤ z ∧ z ≤ 9223372036854775807

section
variable {H : Type} {enc : TypeId × Value → H} {W : World} {base : Nat} {spare : Nat → Bool} {held : Bool} {fuel : Nat} {cs : List Value} {x : DataW H × List MemPlace}

theorem in64_of_wf {z : Int} (h : (Lit.int .i64 z).wf = true) : in64 z := by
  have h1 : IntKind.i64.min = -9223372036854775808 := rfl
  have h2 : IntKind.i64.max = 9223372036854775807 := rfl
  simp only [Lit.wf, Bool.and_eq_true, decide_eq_true_eq] at h
  unfold in64
  omega

theorem el_int {t : TypeId} (ht : Tryd.prog.underlying t = some (.int .i64)) (h : DataW.trod enc Tryd.prog W base spare held fuel t cs = some x) : ∃ z : Int, cs = encI z ∧ in64 z := by
  obtain ⟨z, rfl, _, hw⟩ := DataW.trod_int ht h
  exact ⟨z, rfl, in64_of_wf hw⟩

/-- a slice, read as a list -/
theorem open_sl {α : Type} {t e sz : Nat} [S : SliceTy Tryd.prog t e sz] (hc : Tryd.prog.cellsOf e = sz) {en : α → List Value} {Good : α → Prop}
    (hel : ∀ fuel cs x, DataW.trod enc Tryd.prog W base spare held fuel e cs = some x → ∃ a : α, cs = en a ∧ Good a) (h : DataW.trod enc Tryd.prog W base spare held fuel t cs = some x) :
    ∃ A n c l, cs = [.slice A n c] ∧ Sl W sz en A n l ∧ n ≤ c ∧ c ≤ maxLen ∧ (∀ a ∈ l, Good a) ∧ ((x.1 = .nil ∧ n = 0) ∨ ∃ es sp, x.1 = .slice es sp ∧ es.length = n) := by
  rcases open_slice S.und h with ⟨h1, h2⟩ | ⟨a, len, cap, m, k, D, Pl, h1, hb, hl, hm, hmm, hx, hi⟩
  · exact ⟨none, 0, 0, [], h1, Sl.nil_ _ _ _ _, by simp, by simp, by simp, .inl ⟨by rw [h2], rfl⟩⟩
  · have hlm : len ≤ m := by rw [hmm]; split <;> omega
    have hex : ∀ i, i < len → ∃ q : α, Good q ∧ ∀ j u, (en q)[j]? = some u → W.cell? ((a.add (i * sz)).add j) = some u := fun i hlt => by
      obtain ⟨cs', hcs, ht⟩ := hi i (by omega)
      obtain ⟨q, rfl, hg⟩ := hel _ _ _ ht
      obtain ⟨_, hcl, hat⟩ := World.cells?_some hcs
      rw [hc] at hcl hat
      refine ⟨q, hg, fun j u hu => ?_⟩
      have hj : j < (en q).length := by
        rcases Nat.lt_or_ge j (en q).length with h | h
        · exact h
        · simp [List.getElem?_eq_none h] at hu
      rw [hat j (by omega)]
      exact hu
    by_cases h0 : len = 0
    · subst h0
      exact ⟨some a, 0, cap, [], h1, Sl.nil_ _ _ _ _, hl, hm, by simp, .inr ⟨_, _, by rw [hx], by simp⟩⟩
    have hch : ∃ f : Nat → α, ∀ i, i < len → Good (f i) ∧ ∀ j u, (en (f i))[j]? = some u → W.cell? ((a.add (i * sz)).add j) = some u := by
      have hne : Nonempty α := ⟨(hex 0 (by omega)).choose⟩
      exact ⟨fun i => if h : i < len then (hex i h).choose else Classical.choice hne, fun i h => by simp only [h, dif_pos]; exact (hex i h).choose_spec⟩
    obtain ⟨f, hf⟩ := hch
    refine ⟨some a, len, cap, (List.range len).map f, h1, ⟨by simp, fun _ => rfl, fun i hi' j u hu => ?_⟩, hl, hm, ?_, .inr ⟨_, _, by rw [hx], by simp⟩⟩
    · simp at hi'
      exact (hf i hi').2 j u (by simpa using hu)
    · intro q hq
      obtain ⟨i, hi', rfl⟩ := List.mem_map.1 hq
      exact (hf i (by simpa using hi')).1

theorem open_sl_arg {α : Type} {r : Reach} {b0 : Nat} {t e sz : Nat} [S : SliceTy Tryd.prog t e sz] (hc : Tryd.prog.cellsOf e = sz) {en : α → List Value} {Good : α → Prop}
    (hel : ∀ fuel cs x, DataW.trod enc Tryd.prog W base spare held fuel e cs = some x → ∃ a : α, cs = en a ∧ Good a) {v : Value} {d : DataW H} {p : List MemPlace} (hv : Value.okWide Tryd.prog W r b0 t v) (h : DataW.Trod enc Tryd.prog W base spare held t v d p) :
    ∃ A n c l, v = .slice A n c ∧ Sl W sz en A n l ∧ n ≤ c ∧ c ≤ maxLen ∧ (∀ a ∈ l, Good a) ∧ ((d = .nil ∧ n = 0) ∨ ∃ es sp, d = .slice es sp ∧ es.length = n) := by
  obtain ⟨a0, len, cap, rfl⟩ := okWide_slice S.und hv
  obtain ⟨fuel, hf⟩ := h
  obtain ⟨A, n, c, l, h1, h2, h3, h4, h5, h6⟩ := open_sl hc hel hf
  simp [Value.cells] at h1
  obtain ⟨rfl, rfl, rfl⟩ := h1
  exact ⟨a0, len, cap, l, rfl, h2, h3, h4, h5, h6⟩

theorem bound_sl {ts : List TypeId} {ds : List (DataW H)} (hsz : (DataW.weightsEach Tryd.prog ts ds).all (· ≤ reachBytes) = true) {j t e sz n b : Nat} {d : DataW H} [S : SliceTy Tryd.prog t e sz] (ht : ts[j]? = some t) (hd : ds[j]? = some d) (hb : Tryd.prog.bytesOf e = b)
    (h : (d = .nil ∧ n = 0) ∨ ∃ es sp, d = .slice es sp ∧ es.length = n) : n * b ≤ 140737488351232 := by
  rcases h with ⟨_, rfl⟩ | ⟨es, sp, rfl, rfl⟩
  · omega
  · have := sized_slice hsz ht hd S.und
    rw [hb] at this
    simp only [reachBytes] at this
    refine Nat.le_trans (Nat.mul_le_mul_right _ (Nat.le_add_right _ _)) this

end

/-! bounds of what lies within arguments -/
section
variable {H : Type} {P : Program}
theorem bd_arg {ts : List TypeId} {ds : List (DataW H)} (h : (DataW.weightsEach P ts ds).all (· ≤ reachBytes) = true) {j : Nat} {t : TypeId} {d : DataW H} (ht : ts[j]? = some t) (hd : ds[j]? = some d) : ∀ y ∈ d.weights P t, y ≤ reachBytes := fun y hy => by
  simpa using List.all_eq_true.1 h _ (DataW.weights_mem_each ht hd y hy)
theorem bd_field {t : TypeId} {fs : Array Field} {parts : List (DataW H)} (hu : P.underlying t = some (.struct fs)) {j : Nat} {tj : TypeId} {dj : DataW H} (ht : (fs.toList.map (·.type))[j]? = some tj) (hd : parts[j]? = some dj) (h : ∀ y ∈ (DataW.agg parts).weights P t, y ≤ reachBytes) : ∀ y ∈ dj.weights P tj, y ≤ reachBytes := fun y hy => by
  apply h
  simp only [DataW.weights, hu]
  exact DataW.weights_mem_each ht hd y hy
theorem bd_sl {t e sz n b : Nat} {d : DataW H} [S : SliceTy P t e sz] (hb : P.bytesOf e = b) (h : (d = .nil ∧ n = 0) ∨ ∃ es sp, d = .slice es sp ∧ es.length = n) (hw : ∀ y ∈ d.weights P t, y ≤ reachBytes) : n * b ≤ 140737488351232 := by
  rcases h with ⟨_, rfl⟩ | ⟨es, sp, rfl, rfl⟩
  · omega
  · have := hw ((es.length + sp.length) * P.bytesOf e) (by simp [DataW.weights, S.und])
    rw [hb] at this
    simp only [reachBytes] at this
    exact Nat.le_trans (Nat.mul_le_mul_right _ (Nat.le_add_right _ _)) this
end

section
variable {H : Type} {enc : TypeId × Value → H} {W : World} {base : Nat} {spare : Nat → Bool} {held : Bool} {fuel : Nat} {cs : List Value} {x : DataW H × List MemPlace}
theorem el_block (h : DataW.trod enc Tryd.prog W base spare held fuel 55 cs = some x) : ∃ r : Block, cs = encBk r ∧ True := by
  obtain ⟨xs, n, _, _, hlen, hxl, hf⟩ := DataW.trod_struct Tryd.underlying55 h
  have hc : Tryd.prog.cellsOf 55 = 3 := by kernel_rfl
  have hi : Tryd.prog.cellsOf 3 = 1 := by kernel_rfl
  rw [hc] at hlen
  match cs, hlen with
  | [c0, c1, c2], _ =>
    match xs, hxl with
    | [y0, y1, y2], _ =>
      have h0 : DataW.trod enc Tryd.prog W base spare held n 3 (List.take (Tryd.prog.cellsOf 3) (List.drop 0 [c0, c1, c2])) = some y0 := hf 0 _ rfl
      have h1 : DataW.trod enc Tryd.prog W base spare held n 3 (List.take (Tryd.prog.cellsOf 3) (List.drop 1 [c0, c1, c2])) = some y1 := hf 1 _ rfl
      have h2 : DataW.trod enc Tryd.prog W base spare held n 3 (List.take (Tryd.prog.cellsOf 3) (List.drop 2 [c0, c1, c2])) = some y2 := hf 2 _ rfl
      rw [hi] at h0 h1 h2
      obtain ⟨a, ha, wa⟩ := el_int Tryd.underlying3 h0
      obtain ⟨b, hb, wb⟩ := el_int Tryd.underlying3 h1
      obtain ⟨c, hcc, wc⟩ := el_int Tryd.underlying3 h2
      simp [encI] at ha hb hcc
      subst ha hb hcc
      exact ⟨⟨a, b, c⟩, rfl, trivial⟩
end
end Go.Proofs.YtfommgdbahemfaaDoor
