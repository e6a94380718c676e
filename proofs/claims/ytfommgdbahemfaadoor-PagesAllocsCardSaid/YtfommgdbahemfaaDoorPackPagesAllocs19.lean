/-
  Texts of the claim PagesAllocs, part 19: what its theorem leans on.
-/
import Derived.Test.YtfommgdbahemfaaDoorPackPagesAllocs2
import Derived.Great.BuildSlice
import Derived.Test.YtfommgdbahemfaaDoorPackPagesAllocs9
set_option linter.unusedVariables false
namespace Go.Proofs.YtfommgdbahemfaaDoor
open Go.RowKit
theorem setAt_app : ∀ (vs X Y Z : List Value), vs.length = Y.length → setAt (X ++ Y ++ Z) X.length vs = X ++ vs ++ Z
 | [], X, Y, Z, h => by
  have : Y = [] := List.length_eq_zero_iff.1 (by simpa using h.symm)
  subst this; rfl
 | v :: r, X, [], Z, h => by simp at h
 | v :: r, X, y :: Y, Z, h => by
  have e := setAt_app r (X ++ [v]) Y Z (by simpa using h)
  simp only [List.length_append, List.length_singleton] at e
  simp only [setAt]
  have e2 : (X ++ (y :: Y) ++ Z).set X.length v = X ++ [v] ++ Y ++ Z := by
   rw [List.append_assoc, List.set_append_right _ _ (Nat.le_refl _)]
   simp
  rw [e2, e]
  simp
theorem fill_two {sz : Nat} {u v : Value} {cs ds Z : List Value} (hu : u.cells.toList = cs) (hv : v.cells.toList = ds) (hc : cs.length = sz) (hd : ds.length = sz) (hZ : Z.length = 2 * sz) :
  Instr.fill (fun i => some (i * sz, sz)) Z.toArray [(0, u), (1, v)] = some (cs ++ ds).toArray := by
 have h1 : u.cells.size = sz := by rw [← Array.length_toList, hu, hc]
 have h2 : v.cells.size = sz := by rw [← Array.length_toList, hv, hd]
 have eZ : Z = [] ++ Z.take sz ++ Z.drop sz := by simp
 have s1 : setAt Z 0 cs = cs ++ Z.drop sz := by
  have := setAt_app cs [] (Z.take sz) (Z.drop sz) (by simp; omega)
  rw [← eZ] at this
  simpa using this
 have s2 : setAt (cs ++ Z.drop sz) sz ds = cs ++ ds := by
  have := setAt_app ds cs (Z.drop sz) [] (by simp; omega)
  rw [List.append_nil, hc] at this
  simpa using this
 have fold : ∀ (x : Value) (off : Nat) (X : List Value), Array.foldl (fun (cs : Array Value) (p : Value × Nat) => cs.setIfInBounds (off + p.2) p.1) X.toArray x.cells.zipIdx = (setAt X off x.cells.toList).toArray := fun x off X => by
  have := fold_setAt x.cells.toList 0 off X
  rw [Nat.add_zero] at this
  rw [← this, ← Array.foldl_toList]
  simp [Array.toList_zipIdx]
 simp only [Instr.fill]
 rw [if_neg (by simp; omega)]
 have f1 := fold u (0 * sz) Z
 rw [hu, Nat.zero_mul, s1] at f1
 have f2 := fold v (1 * sz) (cs ++ Z.drop sz)
 rw [hv, Nat.one_mul, s2] at f2
 simp only [Nat.zero_mul, Nat.one_mul] at f1 f2 ⊢
 simp only [f1, f2]
 rw [if_neg (by simp; omega)]
theorem SW.build2 {α : Type} {P : Program} {n : Nat} {ops : Array Oper} {Q : Exit → Act → World → Prop} {rest : List Oper} {L : Env} {w : World} {d : Nat} {T : TypeId} {pos : String} {af : Array Edge} {t e : TypeId} {z : Value} {sz bytes : Nat} {enc : α → List Value}
  [S : SliceTy P t e sz] [E : ElemTy P e z sz bytes] [C : Enc enc sz] {x y : Operand} {u v : Value} (a b : α) (hx : opv L x = some u) (hy : opv L y = some v) (hu : u.cells.toList = enc a) (hv : v.cells.toList = enc b) (hs : Nat.ble sz 1000 = true)
  (hn : Nat.blt d n = true) (h : ∀ g w', Ext w w' → w.heap.size ≤ g → Own w' w.heap.size e sz enc (some ⟨g, 0, none⟩) 2 2 [a, b] → SW P n ops (.eff Q) rest ((d, .slice (some ⟨g, 0, none⟩) 2 2) :: L) w') :
  SW P n ops (.eff Q) (⟨some d, .buildSlice t 2 #[(0, x), (1, y)], T, pos, af, none⟩ :: rest) L w :=
 ⟨fun q hq => by
  obtain ⟨i, hi, hz, hs', hby⟩ := elem_parts P e (z := z) (sz := sz) (bytes := bytes)
  have hle : sz ≤ 1000 := by simpa using hs
  have hp : 0 < sz := E.pos
  simp only [swp]
  refine wpList_buildSlice rfl t e 2 _ rfl (enc a ++ enc b).toArray i z S.und hi hz (by rw [hs']; omega) (by rw [hs']; omega) ?_ ?_
  ·have e1 : (Array.map (fun (p : Nat × Operand) => (p.1, q.eval p.2)) #[(0, x), (1, y)]).toList = [(0, u), (1, v)] := by
    simp [hq.eval hx, hq.eval hy]
   have e2 : ∀ X : Array Value, X = X.toList.toArray := fun X => rfl
   rw [e1, e2 (Array.map _ (Array.range _)), hs']
   exact fill_two hu hv (C.len a) (C.len b) (by simp)
  ·refine (h w.heap.size _ (Ext.alloc w _) (Nat.le_refl _) ⟨rfl, .inr ⟨by omega, w.heap.size, _, rfl, Nat.le_refl _, Blk.new w e (enc a ++ enc b), Nat.le_refl _, by simp only [maxLen]; omega, by simp [C.len]; omega, ?_⟩⟩).out _ (hq.put hn _)
   simp only [List.flatMap_cons, List.flatMap_nil, List.append_nil]
   exact List.take_of_length_le (by simp [C.len]; omega)⟩
end Go.Proofs.YtfommgdbahemfaaDoor
set_option linter.unusedVariables false
set_option linter.unusedSimpArgs false
namespace Go.Proofs.YtfommgdbahemfaaDoor
open Go.RowKit
inductive FirstR (p : Block → Bool) (l : List Block) : Block × Bool → Prop
 | hit {k : Nat} (hk : k < l.length) (hp : p l[k] = true) (hf : ∀ (j : Nat) (hj : j < l.length), j < k → p l[j] = false) : FirstR p l (l[k], true)
 | miss (hf : ∀ (j : Nat) (hj : j < l.length), p l[j] = false) : FirstR p l (⟨0, 0, 0⟩, false)
theorem FirstR.of_hit {p : Block → Bool} {l : List Block} {u : Block × Bool} (h : FirstR p l u) {k : Nat} (hk : k < l.length) (hp : p l[k] = true) (hf : ∀ (j : Nat) (hj : j < l.length), j < k → p l[j] = false) : u = (l[k], true) := by
 cases h with
 | @hit k' hk' hp' hf' =>
  rcases Nat.lt_trichotomy k k' with h | h | h
  ·rw [hf' k hk h] at hp; cases hp
  ·subst h; rfl
  ·rw [hf k' hk' h] at hp'; cases hp'
 | miss hf' => rw [hf' k hk] at hp; cases hp
theorem FirstR.of_miss {p : Block → Bool} {l : List Block} {u : Block × Bool} (h : FirstR p l u) (ha : l.any p = false) : u = (⟨0, 0, 0⟩, false) := by
 cases h with
 | @hit k' hk' hp' hf' =>
  have := List.any_eq_false.1 ha _ (List.getElem_mem hk')
  exact absurd hp' (by simpa using this)
 | miss => rfl
set_option maxHeartbeats 2000000 in
theorem lowestOf_ans (A : Option Addr) (n c : Nat) (l : List Block) (o t : Int) (w : World) (hl : Sl w 3 encBk A n l) (hn : n ≤ 9223372036854775807) (hs : ∀ (i j : Nat) (hj : j < l.length) (hij : i < j), (l[i]'(by omega)).At ≤ l[j].At) :
  Ans Tryd.prog 28 [.slice A n c, .int .i64 o, .int .i64 t] w fun v _ => ∃ u, FirstR (isOT o t) l u ∧ v = .tuple #[.agg (encBk u.1).toArray, .bool u.2] := by
 refine ans_of Tryd.func28 rfl Tryd.ntmps28 rfl ?_
 have hw := Ext.refl w
 refine CW.seq (CW.region (SW.alloc rfl fun b6 w1 hw1 hb6w hb6 => ?_))
 replace hw := Ext.trans hw hw1
 clear hw1
 repeat' (first | (show CW _ _ _ _ _ _; first | refine CW.seq ?_ | refine CW.region ?_) | (show Post _ _ _ _ _; refine Post.seq ?_) | refine SW.nil ?_ | refine SW.pure rfl rfl ?_ | (show SW _ _ _ _ (⟨_, Op.build _ _, _, _, _, none⟩ :: _) _ _; refine SW.st (st_build rfl rfl) rfl ?_))
 refine SW.alloc rfl fun b8 w1 hw1 h8b hb8 => ?_
 have hb8w : w.heap.size ≤ b8 := Nat.le_trans hw.size h8b
 have hne : b6 ≠ b8 := by have := hb6.lt; omega
 (replace hw := Ext.trans hw hw1; replace hb6 := hb6.ext hw1)
 skip
 refine SW.storeAgg hb8 rfl rfl rfl rfl (Enc.one (enc := encBk) ⟨0, 0, 0⟩) fun w2 hb8' hg => ?_
 replace hw := hw.own hb8w hg
 replace hb6 := hb6.grown hg (by simpa using hne)
 replace hb8 := hb8'
 clear hb8' hg hw1 h8b
 have hA := hl.base
 have hll := hl.len
 repeat' (first | (show CW _ _ _ _ _ _; first | refine CW.seq ?_ | refine CW.region ?_ | refine CW.block ?_) | (show Post _ _ _ _ _; refine Post.seq ?_) | refine SW.nil ?_ | refine SW.pure rfl rfl ?_)
 refine CW.loop (fun u : Nat × Block × Bool => [(0, .slice A n c), (1, .int .i64 o), (2, .int .i64 t), (6, .pointer (some ⟨b6, 0, none⟩)), (8, .pointer (some ⟨b8, 0, none⟩)), (9, .bool u.2.2), (10, .int .i64 (u.1 : Int))])
  (fun u w' => u.1 ≤ n ∧ Ext w w' ∧ Blk w' b6 55 (encBk ⟨0, 0, 0⟩) ∧ Blk w' b8 55 (encBk u.2.1) ∧ ((u.2.2 = false ∧ u.2.1 = ⟨0, 0, 0⟩ ∧ ∀ (j : Nat) (hj : j < l.length), j < u.1 → isOT o t l[j] = false) ∨ ∃ (k : Nat) (hk : k < l.length), k < u.1 ∧ u.2.2 = true ∧ u.2.1 = l[k] ∧ isOT o t l[k] = true ∧ ∀ (j : Nat) (hj : j < l.length), j < k → isOT o t l[j] = false))
  (fun u => n - u.1) (0, ⟨0, 0, 0⟩, false) ⟨rfl, rfl, rfl, rfl, rfl, rfl, rfl, trivial⟩ ⟨by simp only; omega, hw, hb6, hb8, .inl ⟨rfl, rfl, fun j hj h => by simp only at h; omega⟩⟩ ?_
 clear hw hb6 hb8
 rintro ⟨i, x, f⟩ w' ⟨hi, hw, hb6, hb8, hI⟩
 simp only at hi hb8 hI ⊢
 by_cases hin : i < n
 ·have hil : i < l.length := by omega
  obtain ⟨y, hy⟩ : ∃ y, l[i] = y := ⟨_, rfl⟩
  have g0 := hl.fld hin (j := 0) (u := .int .i64 y.At) (by rw [hy]; rfl)
  have g1 := hl.fld hin (j := 1) (u := .int .i64 y.Order) (by rw [hy]; rfl)
  have g2 := hl.fld hin (j := 2) (u := .int .i64 y.Ty) (by rw [hy]; rfl)
  have gA := hl.all hin
  simp only [hy] at gA
  have hmiss : isOT o t l[i] = false → (f = false ∧ x = ⟨0, 0, 0⟩ ∧ ∀ (j : Nat) (hj : j < l.length), j < i + 1 → isOT o t l[j] = false) ∨ ∃ (k : Nat) (hk : k < l.length), k < i + 1 ∧ f = true ∧ x = l[k] ∧ isOT o t l[k] = true ∧ ∀ (j : Nat) (hj : j < l.length), j < k → isOT o t l[j] = false := fun hm => by
   rcases hI with ⟨h1, h2, h3⟩ | ⟨k, hk, h1, h2⟩
   ·refine .inl ⟨h1, h2, fun j hj h => ?_⟩
    by_cases e : j = i
    ·subst e; exact hm
    ·exact h3 j hj (by omega)
   ·exact .inr ⟨k, hk, by omega, h2⟩
  by_cases h1 : y.Order = o
  ·by_cases h2 : y.Ty = t
   ·have hp : isOT o t l[i] = true := isOT_iff.2 ⟨by rw [hy]; exact h1, by rw [hy]; exact h2⟩
    rcases hI with ⟨rfl, rfl, h3⟩ | ⟨k, hk, hki, rfl, hx, h4, h5⟩
    ·repeat' (first | (show CW _ _ _ _ _ _; first | refine CW.seq ?_ | refine CW.region ?_ | refine CW.block ?_ | refine CW.condtr rfl (by with_reducible rfl) ?_ | refine CW.condd_t rfl (by omega) ?_ | refine CW.skip ?_ | (apply CW.quiet1 mixed; (· kernel_rfl); rotate_left; intro w1 hw1; replace hw := Ext.trans hw hw1; replace hb6 := hb6.ext hw1; replace hb8 := hb8.ext hw1; clear hw1; rotate_right)) | (show Post _ _ _ _ _; refine Post.seq ?_) | refine SW.nil ?_ | (show SW _ _ _ _ (⟨_, _, _, _, _, some _⟩ :: _) _ _; first | refine SW.want_t rfl rfl (by with_reducible rfl) ?_ | refine SW.splitd_t rfl rfl rfl (by omega) ?_ | refine SW.skip rfl rfl rfl rfl ?_) | refine SW.pure rfl rfl ?_ | (show SW _ _ _ _ (⟨_, Op.fieldAddr _ _ _, _, _, _, none⟩ :: _) _ _; refine SW.st (st_field rfl) rfl ?_) | (show SW _ _ _ _ (⟨_, Op.indexAddr _ _ _, _, _, _, none⟩ :: _) _ _; refine SW.st (st_indexN rfl rfl (by assumption) (by omega)) rfl ?_) | (show SW _ _ _ _ (⟨_, Op.call ⟨.builtin .len, _, _⟩, _, _, _, none⟩ :: _) _ _; refine SW.st (st_len rfl) rfl ?_) | (show SW _ _ _ _ (⟨_, Op.load _ _, _, _, _, none⟩ :: _) _ _; first | refine SW.st (st_loadx hw rfl g1) rfl ?_ | refine SW.st (st_loadx hw rfl g2) rfl ?_ | refine SW.st (st_loadsx hw rfl rfl gA) rfl ?_) | exact SW.qnil rfl)
     refine SW.storeAgg hb8 rfl rfl rfl rfl (Enc.one (enc := encBk) y) fun w2 hb8' hg => ?_
     replace hw := hw.own hb8w hg
     replace hb6 := hb6.grown hg (by simpa using hne)
     repeat' (first | (show CW _ _ _ _ _ _; refine CW.region ?_) | (show Post _ _ _ _ _; first | refine Post.seq ?_ | refine Post.blk ?_) | refine SW.nil ?_ | refine SW.pure rfl rfl ?_ | (show SW _ _ _ _ (⟨_, Op.binOp _ _ _ _ _, _, _, _, none⟩ :: _) _ _; refine SW.st (st_add rfl rfl (by omega) (by omega)) rfl ?_))
     exact Post.again (i + 1, y, true) ⟨rfl, rfl, rfl, rfl, rfl, rfl, rfl, trivial⟩ (by simp only; omega) ⟨by simp only; omega, hw, hb6, hb8', .inr ⟨i, hil, by simp only; omega, rfl, hy.symm, hp, h3⟩⟩
    ·have hle := hs k i hil hki
     rw [hy, ← hx] at hle
     repeat' (first | (show CW _ _ _ _ _ _; first | refine CW.seq ?_ | refine CW.region ?_ | refine CW.block ?_ | refine CW.condd_t rfl (by omega) ?_ | refine CW.condd_f rfl (by omega) ?_ | refine CW.skip ?_ | (apply CW.quiet1 mixed; (· kernel_rfl); rotate_left; intro w1 hw1; replace hw := Ext.trans hw hw1; replace hb6 := hb6.ext hw1; replace hb8 := hb8.ext hw1; clear hw1; rotate_right)) | (show Post _ _ _ _ _; first | refine Post.seq ?_ | refine Post.blk ?_) | refine SW.nil ?_ | (show SW _ _ _ _ (⟨_, _, _, _, _, some _⟩ :: _) _ _; first | refine SW.want_t rfl rfl (by with_reducible rfl) ?_ | refine SW.splitd_t rfl rfl rfl (by omega) ?_ | refine SW.want rfl rfl ?_) | refine SW.pure rfl rfl ?_ | (show SW _ _ _ _ (⟨_, Op.fieldAddr _ _ _, _, _, _, none⟩ :: _) _ _; refine SW.st (st_field rfl) rfl ?_) | (show SW _ _ _ _ (⟨_, Op.binOp _ _ _ _ _, _, _, _, none⟩ :: _) _ _; refine SW.st (st_add rfl rfl (by omega) (by omega)) rfl ?_) | (show SW _ _ _ _ (⟨_, Op.indexAddr _ _ _, _, _, _, none⟩ :: _) _ _; refine SW.st (st_indexN rfl rfl (by assumption) (by omega)) rfl ?_) | (show SW _ _ _ _ (⟨_, Op.call ⟨.builtin .len, _, _⟩, _, _, _, none⟩ :: _) _ _; refine SW.st (st_len rfl) rfl ?_) | (show SW _ _ _ _ (⟨_, Op.load _ _, _, _, _, none⟩ :: _) _ _; first | refine SW.st (st_loadx hw rfl g0) rfl ?_ | refine SW.st (st_loadx hw rfl g1) rfl ?_ | refine SW.st (st_loadx hw rfl g2) rfl ?_ | refine SW.st (st_load rfl (hb8.cell (i := 0) (v := .int .i64 x.At) rfl)) rfl ?_) | exact SW.qnil rfl)
     all_goals first | (exfalso; omega) | skip
     exact Post.again (i + 1, x, true) ⟨rfl, rfl, rfl, rfl, rfl, rfl, rfl, trivial⟩ (by simp only; omega) ⟨by simp only; omega, hw, hb6, hb8, .inr ⟨k, hk, by simp only; omega, rfl, hx, h4, h5⟩⟩
   ·have hm := hmiss (by cases e : isOT o t l[i]; rfl; exact absurd (hy ▸ (isOT_iff.1 e).2) h2)
    repeat' (first | (show CW _ _ _ _ _ _; first | refine CW.seq ?_ | refine CW.region ?_ | refine CW.block ?_ | refine CW.condfr rfl (by with_reducible rfl) ?_ | refine CW.condd_t rfl (by omega) ?_ | refine CW.skip ?_ | (apply CW.quiet1 mixed; (· kernel_rfl); rotate_left; intro w1 hw1; replace hw := Ext.trans hw hw1; replace hb6 := hb6.ext hw1; replace hb8 := hb8.ext hw1; clear hw1; rotate_right)) | (show Post _ _ _ _ _; first | refine Post.seq ?_ | refine Post.blk ?_) | refine SW.nil ?_ | (show SW _ _ _ _ (⟨_, _, _, _, _, some _⟩ :: _) _ _; first | refine SW.want_t rfl rfl (by with_reducible rfl) ?_ | refine SW.skip_t rfl rfl (by with_reducible rfl) rfl ?_ | refine SW.skip_u rfl rfl (by with_reducible rfl) rfl ?_ | refine SW.splitd_t rfl rfl rfl (by omega) ?_ | refine SW.splitd_f rfl rfl rfl (by omega) ?_) | refine SW.pure rfl rfl ?_ | (show SW _ _ _ _ (⟨_, Op.fieldAddr _ _ _, _, _, _, none⟩ :: _) _ _; refine SW.st (st_field rfl) rfl ?_) | (show SW _ _ _ _ (⟨_, Op.binOp _ _ _ _ _, _, _, _, none⟩ :: _) _ _; refine SW.st (st_add rfl rfl (by omega) (by omega)) rfl ?_) | (show SW _ _ _ _ (⟨_, Op.indexAddr _ _ _, _, _, _, none⟩ :: _) _ _; refine SW.st (st_indexN rfl rfl (by assumption) (by omega)) rfl ?_) | (show SW _ _ _ _ (⟨_, Op.call ⟨.builtin .len, _, _⟩, _, _, _, none⟩ :: _) _ _; refine SW.st (st_len rfl) rfl ?_) | (show SW _ _ _ _ (⟨_, Op.load _ _, _, _, _, none⟩ :: _) _ _; first | refine SW.st (st_loadx hw rfl g1) rfl ?_ | refine SW.st (st_loadx hw rfl g2) rfl ?_) | exact SW.qnil rfl)
    all_goals first | (exfalso; omega) | skip
    exact Post.again (i + 1, x, f) ⟨rfl, rfl, rfl, rfl, rfl, rfl, rfl, trivial⟩ (by simp only; omega) ⟨by simp only; omega, hw, hb6, hb8, hm⟩
  ·have hm := hmiss (by cases e : isOT o t l[i]; rfl; exact absurd (hy ▸ (isOT_iff.1 e).1) h1)
   repeat' (first | (show CW _ _ _ _ _ _; first | refine CW.seq ?_ | refine CW.region ?_ | refine CW.block ?_ | refine CW.condfr rfl (by with_reducible rfl) ?_ | refine CW.condd_t rfl (by omega) ?_ | refine CW.skip ?_ | (apply CW.quiet1 mixed; (· kernel_rfl); rotate_left; intro w1 hw1; replace hw := Ext.trans hw hw1; replace hb6 := hb6.ext hw1; replace hb8 := hb8.ext hw1; clear hw1; rotate_right)) | (show Post _ _ _ _ _; first | refine Post.seq ?_ | refine Post.blk ?_) | refine SW.nil ?_ | (show SW _ _ _ _ (⟨_, _, _, _, _, some _⟩ :: _) _ _; first | refine SW.skip_t rfl rfl (by with_reducible rfl) rfl ?_ | refine SW.skip_u rfl rfl (by with_reducible rfl) rfl ?_ | refine SW.splitd_f rfl rfl rfl (by omega) ?_) | refine SW.pure rfl rfl ?_ | (show SW _ _ _ _ (⟨_, Op.fieldAddr _ _ _, _, _, _, none⟩ :: _) _ _; refine SW.st (st_field rfl) rfl ?_) | (show SW _ _ _ _ (⟨_, Op.binOp _ _ _ _ _, _, _, _, none⟩ :: _) _ _; refine SW.st (st_add rfl rfl (by omega) (by omega)) rfl ?_) | (show SW _ _ _ _ (⟨_, Op.indexAddr _ _ _, _, _, _, none⟩ :: _) _ _; refine SW.st (st_indexN rfl rfl (by assumption) (by omega)) rfl ?_) | (show SW _ _ _ _ (⟨_, Op.call ⟨.builtin .len, _, _⟩, _, _, _, none⟩ :: _) _ _; refine SW.st (st_len rfl) rfl ?_) | (show SW _ _ _ _ (⟨_, Op.load _ _, _, _, _, none⟩ :: _) _ _; refine SW.st (st_loadx hw rfl g1) rfl ?_) | exact SW.qnil rfl)
   all_goals first | (exfalso; omega) | skip
   exact Post.again (i + 1, x, f) ⟨rfl, rfl, rfl, rfl, rfl, rfl, rfl, trivial⟩ (by simp only; omega) ⟨by simp only; omega, hw, hb6, hb8, hm⟩
 ·repeat' (first | (show CW _ _ _ _ _ _; first | refine CW.seq ?_ | refine CW.region ?_ | refine CW.condd_f rfl (by omega) ?_ | refine CW.exit ?_) | (show Post _ _ _ _ _; first | refine Post.seq ?_ | refine Post.seq_exit ?_ | refine Post.hit ?_ | refine Post.again_exit ?_) | refine SW.nil ?_ | refine SW.pure rfl rfl ?_ | (show SW _ _ _ _ (⟨_, Op.call ⟨.builtin .len, _, _⟩, _, _, _, none⟩ :: _) _ _; refine SW.st (st_len rfl) rfl ?_) | (show SW _ _ _ _ (⟨_, Op.load _ _, _, _, _, none⟩ :: _) _ _; refine SW.st (st_loads rfl rfl ((fun _ _ => hb8.cell))) rfl ?_))
  refine SW.storeAgg hb6 rfl rfl rfl rfl (Enc.one (enc := encBk) x) fun w2 hR2 hg => ?_
  replace hw := hw.own hb6w hg
  repeat' (first | (show CW _ _ _ _ _ _; refine CW.ret ?_) | (show Post _ _ _ _ _; refine Post.seq ?_) | refine SW.nil ?_ | refine SW.pure rfl rfl ?_)
  refine Post.ret2c rfl rfl rfl hR2 rfl ⟨_, rfl, hw, (x, f), ?_, rfl⟩
  rcases hI with ⟨rfl, rfl, h3⟩ | ⟨k, hk, hki, rfl, rfl, h4, h5⟩
  ·exact .miss fun j hj => h3 j hj (by omega)
  ·exact .hit hk h4 h5
theorem otherTypes_ans (t : Int) (w : World) (ht : tyOk t) :
  Ans Tryd.prog 29 [.int .i64 t] w fun v w' => ∃ A, v = .slice A 2 2 ∧ Own w' w.heap.size 3 1 encI A 2 2 [oth1 t, oth2 t] := by
 refine ans_of Tryd.func29 rfl Tryd.ntmps29 rfl ?_
 have hw := Ext.refl w
 unfold tyOk at ht
 rcases (show t = 0 ∨ t = 1 ∨ t = 2 by omega) with rfl | rfl | rfl
 ·repeat' (first | (show CW _ _ _ _ _ _; first | refine CW.seq ?_ | refine CW.region ?_ | refine CW.block ?_ | refine CW.condd_t rfl (by omega) ?_) | (show Post _ _ _ _ _; refine Post.seq ?_) | refine SW.nil ?_ | refine SW.pure rfl rfl ?_)
  refine SW.build2 (enc := encI) 2 1 rfl rfl rfl rfl rfl rfl fun g w1 hw1 hg hO => ?_
  repeat' (first | (show CW _ _ _ _ _ _; refine CW.ret ?_) | (show Post _ _ _ _ _; first | refine Post.seq ?_ | refine Post.seq_ret ?_ | refine Post.blk_ret ?_) | refine SW.nil ?_ | refine SW.pure rfl rfl ?_)
  exact Post.ret1 rfl rfl ⟨_, rfl, hw1, _, rfl, hO⟩
 ·repeat' (first | (show CW _ _ _ _ _ _; first | refine CW.seq ?_ | refine CW.region ?_ | refine CW.block ?_ | refine CW.condd_t rfl (by omega) ?_ | refine CW.condd_f rfl (by omega) ?_) | (show Post _ _ _ _ _; refine Post.seq ?_) | refine SW.nil ?_ | refine SW.pure rfl rfl ?_)
  refine SW.build2 (enc := encI) 2 0 rfl rfl rfl rfl rfl rfl fun g w1 hw1 hg hO => ?_
  repeat' (first | (show CW _ _ _ _ _ _; refine CW.ret ?_) | (show Post _ _ _ _ _; first | refine Post.seq ?_ | refine Post.seq_ret ?_ | refine Post.blk_ret ?_) | refine SW.nil ?_ | refine SW.pure rfl rfl ?_)
  exact Post.ret1 rfl rfl ⟨_, rfl, hw1, _, rfl, hO⟩
 ·repeat' (first | (show CW _ _ _ _ _ _; first | refine CW.seq ?_ | refine CW.region ?_ | refine CW.block ?_ | refine CW.condd_f rfl (by omega) ?_ | refine CW.skip ?_) | (show Post _ _ _ _ _; first | refine Post.seq ?_ | refine Post.blk ?_) | refine SW.nil ?_ | refine SW.pure rfl rfl ?_)
  refine SW.build2 (enc := encI) 0 1 rfl rfl rfl rfl rfl rfl fun g w1 hw1 hg hO => ?_
  repeat' (first | (show CW _ _ _ _ _ _; refine CW.ret ?_) | (show Post _ _ _ _ _; refine Post.seq ?_) | refine SW.nil ?_ | refine SW.pure rfl rfl ?_)
  exact Post.ret1 rfl rfl ⟨_, rfl, hw1, _, rfl, hO⟩
end Go.Proofs.YtfommgdbahemfaaDoor
