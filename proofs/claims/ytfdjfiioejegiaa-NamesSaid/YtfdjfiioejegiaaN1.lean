/-
  Literals of many integers, for the stepper. No program in sight.
-/
import Derived.Test.YtfdjfiioejegiaaMem
import Derived.Great.BuildSlice
import Derived.ArgAppend
set_option linter.unusedVariables false
namespace Go.Proofs.Ytfdjfiioejegiaa
open Go.RowKit
section
variable {P : Program} {n : Nat} {ops : Array Oper} {Q : Exit → Act → World → Prop} {rest : List Oper} {L : Env} {w : World} {d : Nat} {T : TypeId} {pos : String} {af : Array Edge}

theorem flat_encI : ∀ (zs : List Int), zs.map (Value.int .i64) = zs.flatMap encI
  | [] => rfl
  | z :: r => by rw [List.map_cons, flat_encI r]; rfl

/-- '[]int{..}' -/
theorem SW.buildFlat {t e : TypeId} {z : Value} {bytes len : Nat} {parts : Array (Nat × Operand)} [S : SliceTy P t e 1] [E : ElemTy P e z 1 bytes] (zs : List Int) (hlen : Nat.beq len zs.length = true) (hpos : Nat.blt 0 len = true) (hs : Nat.ble len 1000 = true)
    (hparts : parts.toList = (zs.zipIdx 0).map fun x => (x.2, Operand.const (Value.int .i64 x.1)))
    (hn : Nat.blt d n = true) (h : ∀ b w', Ext w w' → w.heap.size ≤ b → Own w' w.heap.size e 1 encI (some ⟨b, 0, none⟩) len len zs → SW P n ops (.eff Q) rest ((d, .slice (some ⟨b, 0, none⟩) len len) :: L) w') :
    SW P n ops (.eff Q) (⟨some d, .buildSlice t len parts, T, pos, af, none⟩ :: rest) L w :=
  ⟨fun a ha => by
    obtain ⟨i, hi, hz, hs', hby⟩ := elem_parts P e (z := z) (sz := 1) (bytes := bytes)
    have hle : len ≤ 1000 := by simpa using hs
    have hp : 0 < len := by simpa using hpos
    have hl : len = zs.length := Nat.eq_of_beq_eq_true hlen
    simp only [swp]
    refine wpList_buildFlat rfl t e len parts rfl .i64 zs S.und (by simp [hi, hs']) (by simp [hi, hz]) hl hp (by omega) hparts ?_
    refine (h w.heap.size _ (Ext.alloc w _) (Nat.le_refl _) ⟨hl.symm, .inr ⟨hp, w.heap.size, _, rfl, Nat.le_refl _, Blk.new w e (zs.map (Value.int .i64)), Nat.le_refl _, by simp only [maxLen]; omega, by simp [hl], ?_⟩⟩).out _ (ha.put hn _)
    rw [flat_encI]
    have : (zs.flatMap encI).length = len := by rw [length_flatMap_enc (enc := encI) (sz := 1), hl, Nat.mul_one]
    rw [Nat.mul_one]
    exact List.take_of_length_le (Nat.le_of_eq this)⟩
end

section
variable {α : Type} {P : Program} {w : World} {lo : Nat} {t e : TypeId} {z : Value} {sz bytes : Nat} {enc : α → List Value} {A X : Option Addr} {n c m d : Nat} {l ys : List α}

/-- an append tells where its result lies -/
theorem run_append2 [S : SliceTy P t e sz] [T : ElemTy P e z sz bytes] [E : Enc enc sz] (ty : TypeId) (hO : Own w lo e sz enc A n c l) (hS : Sl w sz enc X m ys) (hlo : lo ≤ w.heap.size) (hm0 : 0 < m)
    (hb : (n + m) * bytes ≤ 140737488355328) (hm : n + m ≤ maxLen) :
    ∃ A' c' w', (Builtin.append_ #[t, t] ty #[.slice A n c, .slice X m d]).run P w = .ok (.slice A' (n + m) c') w' ∧
      ((A' = A ∧ c' = c ∧ Own w' lo e sz enc A (n + m) c (l ++ ys) ∧ w.grownBy w' (ownB A c)) ∨ (Own w' w.heap.size e sz enc A' (n + m) c' (l ++ ys) ∧ w.grownBy w' none)) := by
  obtain ⟨i, hi, hz, hs, hby⟩ := elem_parts P e (z := z) (sz := sz) (bytes := bytes)
  have hyl : (ys.flatMap enc).length = m * sz := by rw [length_flatMap_enc, hS.len]
  have hone : ∀ u ∈ ys.flatMap enc, u.oneCell' = true := fun u hu => by
    obtain ⟨x, _, hx⟩ := List.mem_flatMap.1 hu
    exact E.one x u hx
  have hcat : (l ++ ys).flatMap enc = l.flatMap enc ++ ys.flatMap enc := List.flatMap_append
  have hll : (l ++ ys).length = n + m := by rw [List.length_append, hO.len, hS.len]
  obtain ⟨ad, rfl⟩ := Option.isSome_iff_exists.1 (hS.base hm0)
  have hnews := cells_flatMap T.pos hS
  have hll' : (l.flatMap enc).length = n * sz := by rw [length_flatMap_enc, hO.len]
  have big : ∀ b, A = some b → c < n + m → (∀ j u, (l.flatMap enc)[j]? = some u → w.cell? (b.add j) = some u) →
      ∃ A' c' w', (Builtin.append_ #[t, t] ty #[.slice A n c, .slice (some ad) m d]).run P w = .ok (.slice A' (n + m) c') w' ∧ (Own w' w.heap.size e sz enc A' (n + m) c' (l ++ ys) ∧ w.grownBy w' none) := by
    rintro b rfl hlt hold
    obtain ⟨v', w', hr, h2, h3⟩ := run_append_arg_grows (P := P) w t ty e i z sz bytes S.und hi hz hs hby T.zc T.pos b n c (l.flatMap enc) hll' hold ad m d (ys.flatMap enc) hyl hnews hlt hm hb
    rw [← hcat] at h2
    obtain ⟨A', c', rfl, ho⟩ := Own.of_owns h2 hll
    exact ⟨A', c', w', hr, ho, h3⟩
  rcases hO.row with ⟨rfl, rfl⟩ | ⟨hc, g, cur, rfl, hg1, hg2, hg3, hg4, hg5, hg6⟩
  · have hl : l = [] := List.eq_nil_of_length_eq_zero hO.len
    subst hl
    cases A with
    | none =>
      obtain ⟨v', w', hr, h2, h3, _⟩ := run_append_own (P := P) w w.heap.size t ty e i z sz bytes S.und hi hz hs hby T.zc T.pos (.slice none 0 0) 0 [] (World.ownsRow_nil _ _ _ _) ad m d (ys.flatMap enc) hyl hnews hone hm hb (Nat.le_refl _)
      obtain ⟨A', c', rfl, ho⟩ := Own.of_owns (m := 0 + m) (l := [] ++ ys) (enc := enc) (by simpa using h2) (by simpa using hS.len)
      exact ⟨A', c', w', hr, .inr ⟨ho, by simpa [Value.ownBlock] using h3⟩⟩
    | some b =>
      obtain ⟨A', c', w', hr, h⟩ := big b rfl (by omega) (by simp)
      exact ⟨A', c', w', hr, .inr h⟩
  · by_cases hroom : n + m ≤ c
    · obtain ⟨A', c', w', hr, h1, h2⟩ := run_append_gen (P := P) (t := t) ty hO hS (d := d) hlo hb hm
      have hr' := run_append_room (P := P) w t ty e i S.und hi g n c cur hg2 ad m d (ys.flatMap enc) (by rw [hs]; exact hyl) hnews hone hroom (by rw [hs, hyl, hg5, ← Nat.add_mul]; exact Nat.mul_le_mul_right _ hroom)
      have he := hr.symm.trans hr'
      injection he with he _
      injection he with e1 _ e3
      subst e1 e3
      exact ⟨_, _, w', hr, .inl ⟨rfl, rfl, h1, h2⟩⟩
    · obtain ⟨A', c', w', hr, h⟩ := big ⟨g, 0, none⟩ rfl (by omega) ((hO.owns hc).cells (g := g) (by simp [Value.ownBlock]))
      exact ⟨A', c', w', hr, .inr h⟩
end

/-- 'append(s, xs...)', s of the call's own: with room it stays in its block, else the block is new -/
theorem SW.append2 {α : Type} {P : Program} {n : Nat} {ops : Array Oper} {Q : Exit → Act → World → Prop} {rest : List Oper} {L : Env} {w : World} {dd : Nat} {T : TypeId} {pos : String} {af : Array Edge}
    {lo : Nat} {t e : TypeId} {z : Value} {sz bytes : Nat} {enc : α → List Value} {A X : Option Addr} {k c m c2 : Nat} {l ys : List α} [SliceTy P t e sz] [ElemTy P e z sz bytes] [Enc enc sz] {x y : Operand}
    (hO : Own w lo e sz enc A k c l) (hS : Sl w sz enc X m ys) (hlo : lo ≤ w.heap.size) (hm0 : 0 < m) (hx : opv L x = some (.slice A k c)) (hy : opv L y = some (.slice X m c2)) (hn : Nat.blt dd n = true)
    (hb : (k + m) * bytes ≤ 140737488355328) (hm : k + m ≤ 9223372036854775807)
    (h : ∀ A' c' w', ((A' = A ∧ c' = c ∧ Own w' lo e sz enc A (k + m) c (l ++ ys) ∧ w.grownBy w' (ownB A c)) ∨ (Own w' w.heap.size e sz enc A' (k + m) c' (l ++ ys) ∧ w.grownBy w' none)) → SW P n ops (.eff Q) rest ((dd, .slice A' (k + m) c') :: L) w') :
    SW P n ops (.eff Q) (⟨some dd, .call ⟨.builtin .append, #[x, y], #[t, t]⟩, T, pos, af, none⟩ :: rest) L w :=
  ⟨fun a ha => by
    obtain ⟨A', c', w', hr, h1⟩ := run_append2 (P := P) (t := t) T hO hS (d := c2) hlo hm0 hb (by simp only [maxLen]; omega)
    simp only [swp, wpList, Region.wanted, if_true]
    refine .inl ?_
    unfold Oper.wp
    have : (execOp a.eval ⟨some dd, .call ⟨.builtin .append, #[x, y], #[t, t]⟩, T, pos, af, none⟩).run P w = .ok (.value (.slice A' (k + m) c')) w' := by
      simp [execOp, resolve, invoke, builtin, ha.eval hx, ha.eval hy, hr]
    rw [this, Oper.upon_value]
    exact (h A' c' w' h1).out _ (ha.put hn _)⟩
end Go.Proofs.Ytfdjfiioejegiaa
