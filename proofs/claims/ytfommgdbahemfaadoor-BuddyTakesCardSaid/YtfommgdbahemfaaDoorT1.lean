/-
  Contracts: buddy.lowest, buddy.steal.
-/
import Derived.Test.YtfommgdbahemfaaDoorI5
import Derived.Test.YtfommgdbahemfaaDoorH1
import Derived.Test.YtfommgdbahemfaaDoorM1
import Derived.Test.YtfommgdbahemfaaDoorPTake
set_option linter.unusedVariables false
set_option linter.unusedSimpArgs false
namespace Go.Proofs.YtfommgdbahemfaaDoor
open Go.RowKit

section
variable {P : Program} {L : Env} {w : World} {d : Option Nat} {T : TypeId} {pos : String} {af : Array Edge} {g : Option (Nat × Bool)}
/-- an element of an array that is a value -/
theorem st_idxA {t e : TypeId} {len : Nat} [c : ArrTy P t len e 1] [OneTy P e] {x y : Operand} {vs : List Value} {i : Int} {v : Value} (k : Nat) (hx : opv L x = some (.agg vs.toArray)) (hy : opv L y = some (.int .i64 i)) (hi : i = (k : Int)) (hk : k < len) (hv : vs[k]? = some v) :
    St P ⟨d, .index t x y, T, pos, af, g⟩ L w v :=
  ⟨fun _ a ha w' _ => by
    subst hi
    have e1 := ha.eval hx
    have e2 := ha.eval hy
    generalize a.eval = ρ at *
    simp [execOp, e1, e2, Instr.index, asIntOf, run_underlying c.und, run_sizeOf c.size, hk, part, run_isAgg_one, hv]⟩
end
theorem lowF_ans (o t : Int) (b4 b5 : Nat) (x : Block) (w : World) (h4 : Blk w b4 3 [.int .i64 o]) (h5 : Blk w b5 3 [.int .i64 t]) :
    Ans Tryd.prog 59 ([.agg (encBk x).toArray] ++ [.pointer (some ⟨b4, 0, none⟩), .pointer (some ⟨b5, 0, none⟩)]) w fun v _ => v = .bool (isOT o t x) := by
  refine ans_of Tryd.func59 rfl Tryd.ntmps59 rfl ?_
  refine CW.seq (CW.region (SW.box rfl rfl fun b1 w1 hw hb1b hb1 => ?_))
  replace h4 := h4.ext hw
  replace h5 := h5.ext hw
  have h4c := h4.cell (i := 0) (v := .int .i64 o) rfl
  have h5c := h5.cell (i := 0) (v := .int .i64 t) rfl
  rw [add_zero] at h4c h5c
  by_cases h1 : x.Order = o
  · repeat' (first | (show CW _ _ _ _ _ _; first | refine CW.seq ?_ | refine CW.region ?_ | refine CW.ret ?_) | (show Post _ _ _ _ _; refine Post.seq ?_) | refine SW.nil ?_ | (show SW _ _ _ _ (⟨_, _, _, _, _, some _⟩ :: _) _ _; first | refine SW.want_t rfl rfl (by with_reducible rfl) ?_ | refine SW.splitd_t rfl rfl rfl (by omega) ?_) | refine SW.pure rfl rfl ?_ | (show SW _ _ _ _ (⟨_, Op.fieldAddr _ _ _, _, _, _, none⟩ :: _) _ _; refine SW.st (st_field rfl) rfl ?_) | (show SW _ _ _ _ (⟨_, Op.load _ _, _, _, _, none⟩ :: _) _ _; first | refine SW.st (st_load rfl (hb1.cell rfl)) rfl ?_ | refine SW.st (st_load rfl h4c) rfl ?_ | refine SW.st (st_load rfl h5c) rfl ?_))
    exact Post.ret1 rfl rfl ⟨_, rfl, hw, by simp [isOT, h1]⟩
  · repeat' (first | (show CW _ _ _ _ _ _; first | refine CW.seq ?_ | refine CW.region ?_ | refine CW.ret ?_) | (show Post _ _ _ _ _; refine Post.seq ?_) | refine SW.nil ?_ | (show SW _ _ _ _ (⟨_, _, _, _, _, some _⟩ :: _) _ _; first | refine SW.skip_t rfl rfl (by with_reducible rfl) rfl ?_ | refine SW.splitd_f rfl rfl rfl (by omega) ?_) | refine SW.pure rfl rfl ?_ | (show SW _ _ _ _ (⟨_, Op.fieldAddr _ _ _, _, _, _, none⟩ :: _) _ _; refine SW.st (st_field rfl) rfl ?_) | (show SW _ _ _ _ (⟨_, Op.load _ _, _, _, _, none⟩ :: _) _ _; first | refine SW.st (st_load rfl (hb1.cell rfl)) rfl ?_ | refine SW.st (st_load rfl h4c) rfl ?_))
    exact Post.ret1 rfl rfl ⟨_, rfl, hw, by simp [isOT, h1]⟩

theorem lowest_ans (r : ZRow) (l : List Block) (o t : Int) (w : World) (hl : Sl w 3 encBk r.Free.A r.Free.n l) (hn : r.Free.n ≤ 9223372036854775807) :
    Ans Tryd.prog 20 [.agg (encZ r).toArray, .int .i64 o, .int .i64 t] w fun v _ => v = .int .i64 (idxOf (isOT o t) l) := by
  refine ans_of Tryd.func20 rfl Tryd.ntmps20 rfl ?_
  refine CW.seq (CW.region (SW.box rfl rfl fun b3 w1 hw hb3b hb3 => ?_))
  refine SW.box1 rfl rfl rfl fun b4 w2 hw2 hb4b hb4 => ?_
  (replace hw := Ext.trans hw hw2; replace hb3 := hb3.ext hw2)
  refine SW.box1 rfl rfl rfl fun b5 w3 hw3 hb5b hb5 => ?_
  (replace hw := Ext.trans hw hw3; replace hb3 := hb3.ext hw3; replace hb4 := hb4.ext hw3)
  repeat' (first | (show CW _ _ _ _ _ _; first | refine CW.seq ?_ | refine CW.region ?_) | (show Post _ _ _ _ _; refine Post.seq ?_) | refine SW.nil ?_ | refine SW.pure rfl rfl ?_ | (show SW _ _ _ _ (⟨_, Op.fieldAddr _ _ _, _, _, _, none⟩ :: _) _ _; refine SW.st (st_field rfl) rfl ?_) | (show SW _ _ _ _ (⟨_, Op.load _ _, _, _, _, none⟩ :: _) _ _; refine SW.st (st_load rfl (hb3.cell rfl)) rfl ?_) | (refine SW.st (st_func (vs := [.pointer (some ⟨b4, 0, none⟩), .pointer (some ⟨b5, 0, none⟩)]) rfl) rfl ?_))
  refine SW.call rfl rfl (IndexFuncBlock_ans _ _ _ _ _ (hl.ext hw) _ [.pointer (some ⟨b4, 0, none⟩), .pointer (some ⟨b5, 0, none⟩)] (isOT o t) (fun x => .agg (encBk x).toArray) (fun x => rfl) (fun x hx w1 hx1 => lowF_ans o t b4 b5 x w1 (hb4.ext hx1) (hb5.ext hx1)) hn) fun v w4 hw4 hv => ?_
  subst hv
  replace hw := Ext.trans hw hw4
  repeat' (first | (show CW _ _ _ _ _ _; refine CW.ret ?_) | (show Post _ _ _ _ _; refine Post.seq ?_) | refine SW.nil ?_ | refine SW.pure rfl rfl ?_)
  exact Post.ret1 rfl rfl ⟨_, rfl, hw, rfl⟩

/-- the blocks of one type are as they were -/
structure KeepT (T : TypeId) (w w' : World) : Prop where
  out : ∀ b cs, Blk w b T cs → Blk w' b T cs
theorem KeepT.refl (T : TypeId) (w : World) : KeepT T w w := ⟨fun _ _ h => h⟩
theorem KeepT.ext {T : TypeId} {w w1 w2 : World} (h : KeepT T w w1) (hx : Ext w1 w2) : KeepT T w w2 := ⟨fun b cs hb => (h.out b cs hb).ext hx⟩
theorem KeepT.grT {T t : TypeId} {w w1 w2 : World} (h : KeepT T w w1) (hG : GrT w1 w2 t) (hne : Nat.beq t T = false) : KeepT T w w2 := ⟨fun b cs hb => (h.out b cs hb).grT hG hne⟩

/-- the types of a zone, so many pages of a block later -/
def tyAt (T : List Int) (i : Nat) (t : Int) (c : Nat) : List Int := if c = 0 then T else if c ≤ 8 then T.set i t else (T.set i t).set (i + 1) t
theorem tyAt_step {T : List Int} {i : Nat} {t : Int} {c : Nat} (hc : c < 16) : (tyAt T i t c).set (i + c / 8) t = tyAt T i t (c + 1) := by
  unfold tyAt
  rcases (show c = 0 ∨ (1 ≤ c ∧ c < 8) ∨ c = 8 ∨ (8 < c ∧ c < 16) by omega) with rfl | h | rfl | h
  · simp
  · have e : c / 8 = 0 := by omega
    rw [if_neg (by omega), if_pos (by omega), if_neg (by omega), if_pos (by omega), e, Nat.add_zero, List.set_set]
  · simp
  · have e : c / 8 = 1 := by omega
    rw [if_neg (by omega), if_neg (by omega), if_neg (by omega), if_neg (by omega), e, List.set_set]
theorem tyAt_len {T : List Int} {i : Nat} {t : Int} {c : Nat} : (tyAt T i t c).length = T.length := by unfold tyAt; split <;> (try split) <;> simp
/-- a list of which the first ones are changed -/
def mapTo {α : Type} (f : α → α) (l : List α) (j : Nat) : List α := (l.take j).map f ++ l.drop j
theorem mapTo_len {α : Type} {f : α → α} {l : List α} {j : Nat} : (mapTo f l j).length = l.length := by simp [mapTo]; omega
theorem mapTo_get {α : Type} {f : α → α} {l : List α} {j : Nat} (hj : j < l.length) : (mapTo f l j)[j]'(by rw [mapTo_len]; exact hj) = l[j] := by
  have e : (mapTo f l j)[j]? = l[j]? := by
    unfold mapTo
    rw [List.getElem?_append_right (by simp; omega)]
    have : j - ((l.take j).map f).length = 0 := by simp; omega
    rw [this, List.getElem?_drop]
    simp
  rw [List.getElem?_eq_getElem (by rw [mapTo_len]; exact hj), List.getElem?_eq_getElem hj] at e
  exact Option.some.inj e
theorem mapTo_set {α : Type} {f : α → α} {l : List α} {j : Nat} (hj : j < l.length) : (mapTo f l j).set j (f l[j]) = mapTo f l (j + 1) := by
  unfold mapTo
  rw [List.set_append_right _ _ (by simp; omega)]
  have : j - ((l.take j).map f).length = 0 := by simp; omega
  rw [this, List.take_succ_eq_append_getElem hj, List.map_append, List.drop_eq_getElem_cons hj, List.set_cons_zero]
  simp
theorem mapTo_skip {α : Type} {f : α → α} {l : List α} {j : Nat} (hj : j < l.length) (hf : f l[j] = l[j]) : mapTo f l (j + 1) = mapTo f l j := by
  rw [← mapTo_set hj, hf]
  have := mapTo_get (f := f) hj
  rw [← this]
  exact List.set_getElem_self (by rw [mapTo_len]; exact hj)
theorem mapTo_zero {α : Type} {f : α → α} {l : List α} : mapTo f l 0 = l := by simp [mapTo]
theorem mapTo_all {α : Type} {f : α → α} {l : List α} : mapTo f l l.length = l.map f := by simp [mapTo]

/-- the pages of a block lie in one group, or in two -/
theorem group_of {f a o : Int} (hf : f % 16 = 0) (hfa : f ≤ a) (h2 : 2 ≤ o) (h4 : o ≤ 4) (hm : a % pw o = 0) {c : Nat} (hc : (c : Int) < pw o) : (a + c - f) / 8 = ((((a - f) / 8).toNat + c / 8 : Nat) : Int) := by
  rcases pw_cases (show 0 ≤ o by omega) h4 with ⟨e1, e2⟩ | ⟨e1, e2⟩ | ⟨e1, e2⟩ | ⟨e1, e2⟩ | ⟨e1, e2⟩ <;> rw [e2] at hm hc <;> omega
theorem stTo_max {b : Block} (h2 : 2 ≤ b.Order) (h4 : b.Order ≤ 4) (hm : b.At % pw b.Order = 0) : max (b.At + pw b.Order) (b.At / 8 * 8 + 8) = stTo b := by
  unfold stTo
  rcases pw_cases (show 0 ≤ b.Order by omega) h4 with ⟨e1, e2⟩ | ⟨e1, e2⟩ | ⟨e1, e2⟩ | ⟨e1, e2⟩ | ⟨e1, e2⟩ <;> rw [e2] at hm ⊢ <;> split <;> omega

structure StealRes (base w : World) (r : ZRow) (z : Zone) (b : Block) (t : Int) (w' : World) : Prop where
  ext : Ext base w'
  keep : KeepT 25 w w'
  free : Own w' base.heap.size 55 3 encBk r.Free.A r.Free.n r.Free.c (stFree z.Free b t)
  types : Own w' base.heap.size 3 1 encI r.Types.A r.Types.n r.Types.c (stTypes z b t)

set_option maxHeartbeats 2000000 in
theorem steal_ans (r : ZRow) (z : Zone) (k : Nat) (t : Int) (base w : World) (hB : Ext base w) (hX : Own w base.heap.size 55 3 encBk r.Free.A r.Free.n r.Free.c z.Free) (hT : Own w base.heap.size 3 1 encI r.Types.A r.Types.n r.Types.c z.Types)
    (eF : r.From = z.From) (hz : ZoneMay z) (hk : k < z.Free.length) (hn : r.Free.n ≤ 1000000000000000000) :
    AnsX Tryd.prog 21 [.agg (encZ r).toArray, .int .i64 (k : Int), .int .i64 t] w fun _ w' => StealRes base w r z z.Free[k] t w' := by
  refine ansx_of Tryd.func21 rfl Tryd.ntmps21 rfl ?_
  obtain ⟨f1, f2, f3, f4, f5⟩ := (hz.blk k hk).1
  obtain ⟨o1, o2, o3, o4, o5⟩ := hz.ok
  have hlen := hz.len
  have hFl := hX.len
  have hTl := hT.len
  have hA := hX.sl.base
  have hAT := hT.sl.base
  have hkn : k < r.Free.n := by omega
  refine CW.seq (CW.region (SW.box rfl rfl fun b3 w1 hw1 hb3b hb3 => ?_))
  have hw := Ext.trans hB hw1
  have hK : KeepT 25 w w1 := (KeepT.refl _ w).ext hw1
  replace hX := hX.ext hw1
  replace hT := hT.ext hw1
  have hb3w : base.heap.size ≤ b3 := Nat.le_trans hB.size hb3b
  clear hw1 hb3b
  obtain ⟨x, hx⟩ : ∃ x, z.Free[k] = x := ⟨_, rfl⟩
  rw [hx] at f1 f2 f3 f4 f5 ⊢
  have hg := hX.sl.all hkn
  simp only [hx] at hg
  repeat' (first | (show CW _ _ _ _ _ _; first | refine CW.seq ?_ | refine CW.region ?_) | (show Post _ _ _ _ _; refine Post.seq ?_) | refine SW.nil ?_ | refine SW.pure rfl rfl ?_ | (show SW _ _ _ _ (⟨_, Op.fieldAddr _ _ _, _, _, _, none⟩ :: _) _ _; refine SW.st (st_field rfl) rfl ?_) | (show SW _ _ _ _ (⟨_, Op.indexAddr _ _ _, _, _, _, none⟩ :: _) _ _; refine SW.st (st_indexN rfl rfl (by assumption) (by omega)) rfl ?_) | (show SW _ _ _ _ (⟨_, Op.load _ _, _, _, _, none⟩ :: _) _ _; first | refine SW.st (st_load rfl (hb3.cell (i := 2) (v := .slice r.Free.A r.Free.n r.Free.c) rfl)) rfl ?_ | refine SW.st (st_loads rfl rfl hg) rfl ?_))
  refine SW.alloc rfl fun b6 w1 hw1 h6b hb6 => ?_
  have h6w : base.heap.size ≤ b6 := Nat.le_trans hw.size h6b
  have hne6 : ownB r.Free.A r.Free.c ≠ some b6 := fun e => by have := hX.lt_size _ e; omega
  replace hw := Ext.trans hw hw1
  replace hb3 := hb3.ext hw1
  replace hX := hX.ext hw1
  replace hT := hT.ext hw1
  replace hK := hK.ext hw1
  skip
  refine SW.storeAgg hb6 rfl rfl rfl rfl (Enc.one (enc := encBk) x) fun w2 hb6' hg => ?_
  have hG := hb6.gr hg
  replace hw := hw.own h6w hg
  replace hX := hX.grown hg (.inr hne6)
  (replace hb3 := hb3.grT hG rfl; replace hT := hT.grT hG rfl; replace hK := hK.grT hG rfl)
  replace hb6 := hb6'
  clear hb6' hg hG hw1 h6b
  by_cases h2 : x.Order < 2
  · repeat' (first | (show CW _ _ _ _ _ _; first | refine CW.seq ?_ | refine CW.region ?_ | refine CW.condd_t rfl (by omega) ?_ | refine CW.ret ?_) | (show Post _ _ _ _ _; first | refine Post.seq ?_ | refine Post.seq_ret ?_) | refine SW.nil ?_ | refine SW.pure rfl rfl ?_ | (show SW _ _ _ _ (⟨_, Op.fieldAddr _ _ _, _, _, _, none⟩ :: _) _ _; refine SW.st (st_field rfl) rfl ?_) | (show SW _ _ _ _ (⟨_, Op.load _ _, _, _, _, none⟩ :: _) _ _; refine SW.st (st_load rfl (hb6.cell (i := 1) (v := .int .i64 x.Order) rfl)) rfl ?_))
    exact Post.ret0 rfl ⟨_, rfl, hw, hK, by rw [stFree, if_pos h2]; exact hX, by rw [stTypes, if_pos h2]; exact hT⟩
  · repeat' (first | (show CW _ _ _ _ _ _; first | refine CW.seq ?_ | refine CW.region ?_ | refine CW.block ?_ | refine CW.condd_f rfl (by omega) ?_ | refine CW.skip ?_) | (show Post _ _ _ _ _; refine Post.seq ?_) | refine SW.nil ?_ | refine SW.pure rfl rfl ?_ | (show SW _ _ _ _ (⟨_, Op.fieldAddr _ _ _, _, _, _, none⟩ :: _) _ _; refine SW.st (st_field rfl) rfl ?_) | (show SW _ _ _ _ (⟨_, Op.load _ _, _, _, _, none⟩ :: _) _ _; first | refine SW.st (st_load rfl (hb6.cell (i := 1) (v := .int .i64 x.Order) rfl)) rfl ?_ | refine SW.st (st_load rfl (hb6.cell (i := 0) (v := .int .i64 x.At) rfl)) rfl ?_))
    have hp := pw_le f1 f2
    have hgr : ∀ c : Nat, (c : Int) < pw x.Order → (x.At + c - z.From) / 8 = ((stIdx z x + c / 8 : Nat) : Int) := fun c hc => group_of o4 f3 (by omega) f2 f5 hc
    have cE : ∀ w', Ans Tryd.prog 23 [.agg (encBk x).toArray] w' fun v _ => v = .int .i64 (x.At + pw x.Order) := fun w' => Zend_ans x w' ⟨f1, f2⟩ ⟨by omega, by omega⟩
    refine CW.loop (fun c : Nat => [(2, .int .i64 t), (3, .pointer (some ⟨b3, 0, none⟩)), (6, .pointer (some ⟨b6, 0, none⟩)), (7, .int .i64 (x.At + (c : Int)))])
      (fun c w' => (c : Int) ≤ pw x.Order ∧ Ext base w' ∧ KeepT 25 w w' ∧ Blk w' b3 25 (encZ r) ∧ Blk w' b6 55 (encBk x) ∧ Own w' base.heap.size 55 3 encBk r.Free.A r.Free.n r.Free.c z.Free ∧ Own w' base.heap.size 3 1 encI r.Types.A r.Types.n r.Types.c (tyAt z.Types (stIdx z x) t c))
      (fun c => (pw x.Order).toNat - c) 0 ⟨rfl, rfl, rfl, congrArg (fun z => some (Value.int .i64 z)) (by omega), trivial⟩ ⟨by omega, hw, hK, hb3, hb6, hX, hT⟩ ?_
    clear hw hK hb3 hb6 hX hT
    rintro c w' ⟨hc, hw, hK, hb3, hb6, hX, hT⟩
    by_cases hcp : (c : Int) < pw x.Order
    · have hgc := hgr c hcp
      have hin : stIdx z x + c / 8 < r.Types.n := by
        have : x.At + c < z.To := by
          rcases pw_cases f1 f2 with ⟨e1, e2⟩ | ⟨e1, e2⟩ | ⟨e1, e2⟩ | ⟨e1, e2⟩ | ⟨e1, e2⟩ <;> rw [e2] at f5 hcp <;> omega
        omega
      have hc16 : c < 16 := by omega
      repeat' (first | (show CW _ _ _ _ _ _; first | refine CW.seq ?_ | refine CW.region ?_ | refine CW.block ?_ | refine CW.condd_t rfl (by omega) ?_ | refine CW.skip ?_) | (show Post _ _ _ _ _; refine Post.seq ?_) | refine SW.nil ?_ | refine SW.pure rfl rfl ?_ | (show SW _ _ _ _ (⟨_, Op.fieldAddr _ _ _, _, _, _, none⟩ :: _) _ _; refine SW.st (st_field rfl) rfl ?_) | (show SW _ _ _ _ (⟨_, Op.binOp _ _ _ _ _, _, _, _, none⟩ :: _) _ _; first | refine SW.st (st_sub rfl rfl (by omega) (by omega)) rfl ?_ | refine SW.st (st_quo rfl rfl (by omega) (by omega) (by omega)) rfl ?_) | (show SW _ _ _ _ (⟨_, Op.indexAddr _ _ _, _, _, _, none⟩ :: _) _ _; refine SW.st (st_indexI (stIdx z x + c / 8) rfl rfl (by assumption) (by omega) (by omega)) rfl ?_) | (show SW _ _ _ _ (⟨_, Op.load _ _, _, _, _, none⟩ :: _) _ _; first | refine SW.st (st_loads rfl rfl ((fun _ _ => hb6.cell))) rfl ?_ | refine SW.st (st_load rfl (hb3.cell (i := 3) (v := .slice r.Types.A r.Types.n r.Types.c) rfl)) rfl ?_ | refine SW.st (st_load rfl (hb3.cell (i := 0) (v := .int .i64 r.From) rfl)) rfl ?_) | (show SW _ _ _ _ (⟨_, Op.call ⟨.value (.func _), _, _⟩, _, _, _, none⟩ :: _) _ _; (refine SW.call rfl rfl (cE _) ?_; intro v w1 hw1 hv; subst hv; replace hw := Ext.trans hw hw1; replace hb3 := hb3.ext hw1; replace hb6 := hb6.ext hw1; replace hX := hX.ext hw1; replace hT := hT.ext hw1; replace hK := hK.ext hw1; clear hw1)))
      refine SW.storeI (stIdx z x + c / 8) hT rfl rfl hin fun w5 hT' hg => ?_
      have hG := hT.gr hg
      replace hw := ext_grown hw hg (Nat.le_refl _) hT.row_ge
      (replace hb3 := hb3.grT hG rfl; replace hb6 := hb6.grT hG rfl; replace hX := hX.grT hG rfl; replace hK := hK.grT hG rfl)
      rw [tyAt_step hc16] at hT'
      repeat' (first | (show CW _ _ _ _ _ _; refine CW.region ?_) | (show Post _ _ _ _ _; first | refine Post.seq ?_ | refine Post.blk ?_) | refine SW.nil ?_ | refine SW.pure rfl rfl ?_ | (show SW _ _ _ _ (⟨_, Op.binOp _ _ _ _ _, _, _, _, none⟩ :: _) _ _; refine SW.st (st_add rfl rfl (by omega) (by omega)) rfl ?_))
      exact Post.again (c + 1) ⟨rfl, rfl, rfl, congrArg (fun z => some (Value.int .i64 z)) (by omega), trivial⟩ (by omega) ⟨by omega, hw, hK, hb3, hb6, hX, hT'⟩
    · have hce : (c : Int) = pw x.Order := by omega
      have hty : tyAt z.Types (stIdx z x) t c = stTypes z x t := by
        unfold tyAt stTypes
        rcases pw_cases f1 f2 with ⟨e1, e2⟩ | ⟨e1, e2⟩ | ⟨e1, e2⟩ | ⟨e1, e2⟩ | ⟨e1, e2⟩
        · omega
        · omega
        · rw [if_neg (by omega), if_pos (by omega), if_neg (by omega), if_neg (by omega)]
        · rw [if_neg (by omega), if_pos (by omega), if_neg (by omega), if_neg (by omega)]
        · rw [if_neg (by omega), if_neg (by omega), if_neg (by omega), if_pos (by omega)]
      rw [hty] at hT
      have hto := stTo_max (b := x) (by omega) f2 f5
      repeat' (first | (show CW _ _ _ _ _ _; first | refine CW.seq ?_ | refine CW.region ?_ | refine CW.block ?_ | refine CW.condd_f rfl (by omega) ?_ | refine CW.exit ?_) | (show Post _ _ _ _ _; first | refine Post.seq ?_ | refine Post.seq_exit ?_ | refine Post.hit ?_ | refine Post.again_exit ?_) | refine SW.nil ?_ | refine SW.pure rfl rfl ?_ | (show SW _ _ _ _ (⟨_, Op.fieldAddr _ _ _, _, _, _, none⟩ :: _) _ _; refine SW.st (st_field rfl) rfl ?_) | (show SW _ _ _ _ (⟨_, Op.binOp _ _ _ _ _, _, _, _, none⟩ :: _) _ _; first | refine SW.st (st_add rfl rfl (by omega) (by omega)) rfl ?_ | refine SW.st (st_mul rfl rfl (by omega) (by omega)) rfl ?_ | refine SW.st (st_quo rfl rfl (by omega) (by omega) (by omega)) rfl ?_) | (show SW _ _ _ _ (⟨_, Op.call ⟨.builtin .len, _, _⟩, _, _, _, none⟩ :: _) _ _; refine SW.st (st_len rfl) rfl ?_) | (show SW _ _ _ _ (⟨_, Op.load _ _, _, _, _, none⟩ :: _) _ _; first | refine SW.st (st_loads rfl rfl ((fun _ _ => hb6.cell))) rfl ?_ | refine SW.st (st_load rfl (hb6.cell (i := 0) (v := .int .i64 x.At) rfl)) rfl ?_ | refine SW.st (st_load rfl (hb3.cell (i := 2) (v := .slice r.Free.A r.Free.n r.Free.c) rfl)) rfl ?_) | (show SW _ _ _ _ (⟨_, Op.call ⟨.value (.func _), _, _⟩, _, _, _, none⟩ :: _) _ _; (refine SW.call rfl rfl (cE _) ?_; intro v w1 hw1 hv; subst hv; replace hw := Ext.trans hw hw1; replace hb3 := hb3.ext hw1; replace hb6 := hb6.ext hw1; replace hX := hX.ext hw1; replace hT := hT.ext hw1; replace hK := hK.ext hw1; clear hw1)) | (refine SW.st ((st_max rfl rfl).eq (congrArg (Value.int .i64) hto)) rfl ?_))
      clear hb6 cE hgr
      obtain ⟨f, hf⟩ : ∃ f, stB (x.At / 8 * 8) (stTo x) t = f := ⟨_, rfl⟩
      refine CW.loop (fun j : Nat => [(2, .int .i64 t), (3, .pointer (some ⟨b3, 0, none⟩)), (8, .int .i64 (x.At / 8 * 8)), (9, .int .i64 (stTo x)), (47, .slice r.Free.A r.Free.n r.Free.c), (48, .int .i64 (r.Free.n : Int)), (49, .int .i64 (j : Int))])
        (fun j w' => j ≤ r.Free.n ∧ Ext base w' ∧ KeepT 25 w w' ∧ Blk w' b3 25 (encZ r) ∧ Own w' base.heap.size 55 3 encBk r.Free.A r.Free.n r.Free.c (mapTo f z.Free j) ∧ Own w' base.heap.size 3 1 encI r.Types.A r.Types.n r.Types.c (stTypes z x t))
        (fun j => r.Free.n - j) 0 ⟨rfl, rfl, rfl, rfl, rfl, rfl, rfl, trivial⟩ ⟨by omega, hw, hK, hb3, by rw [mapTo_zero]; exact hX, hT⟩ ?_
      clear hw hK hb3 hX hT
      rintro j w' ⟨hj, hw, hK, hb3, hX, hT⟩
      by_cases hjn : j < r.Free.n
      · have hjl : j < z.Free.length := by omega
        obtain ⟨g1, g2, g3, g4, g5⟩ := (hz.blk j hjl).1
        obtain ⟨y, hy⟩ : ∃ y, z.Free[j] = y := ⟨_, rfl⟩
        have hget := mapTo_get (f := f) hjl
        rw [hy] at g1 g2 g3 g4 g5 hget
        have hall := hX.sl.all hjn
        simp only [hget] at hall
        have hpy := pw_le g1 g2
        have cY : ∀ w', Ans Tryd.prog 23 [.agg (encBk y).toArray] w' fun v _ => v = .int .i64 (y.At + pw y.Order) := fun w' => Zend_ans y w' ⟨g1, g2⟩ ⟨by omega, by omega⟩
        repeat' (first | (show CW _ _ _ _ _ _; first | refine CW.seq ?_ | refine CW.region ?_ | refine CW.block ?_ | refine CW.condd_t rfl (by omega) ?_ | refine CW.skip ?_) | (show Post _ _ _ _ _; refine Post.seq ?_) | refine SW.nil ?_ | refine SW.pure rfl rfl ?_ | (show SW _ _ _ _ (⟨_, Op.indexAddr _ _ _, _, _, _, none⟩ :: _) _ _; refine SW.st (st_indexN rfl rfl (by assumption) (by omega)) rfl ?_) | (show SW _ _ _ _ (⟨_, Op.load _ _, _, _, _, none⟩ :: _) _ _; refine SW.st (st_loads rfl rfl hall) rfl ?_))
        refine SW.alloc rfl fun b11 w1 hw1 hb hb11 => ?_
        have hbw : base.heap.size ≤ b11 := Nat.le_trans hw.size hb
        have hne : ownB r.Free.A r.Free.c ≠ some b11 := fun e => by have := hX.lt_size _ e; omega
        replace hw := Ext.trans hw hw1
        replace hb3 := hb3.ext hw1
        replace hX := hX.ext hw1
        replace hT := hT.ext hw1
        replace hK := hK.ext hw1
        repeat' (refine SW.pure rfl rfl ?_)
        refine SW.storeAgg hb11 rfl rfl rfl rfl (Enc.one (enc := encBk) y) fun w2 hb11' hg => ?_
        have hG := hb11.gr hg
        replace hw := hw.own hbw hg
        replace hX := hX.grown hg (.inr hne)
        (replace hb3 := hb3.grT hG rfl; replace hT := hT.grT hG rfl; replace hK := hK.grT hG rfl)
        replace hb11 := hb11'
        clear hb11' hg hG hw1 hb
        by_cases hcond : x.At / 8 * 8 ≤ y.At ∧ y.At + pw y.Order ≤ stTo x
        · have hfy : f y = ⟨y.At, y.Order, t⟩ := by rw [← hf]; unfold stB; rw [if_pos hcond]
          repeat' (first | (show CW _ _ _ _ _ _; first | refine CW.seq ?_ | refine CW.region ?_ | refine CW.condd_t rfl (by omega) ?_) | (show Post _ _ _ _ _; refine Post.seq ?_) | refine SW.nil ?_ | (show SW _ _ _ _ (⟨_, _, _, _, _, some _⟩ :: _) _ _; first | refine SW.want_t rfl rfl (by with_reducible rfl) ?_ | refine SW.splitd_t rfl rfl rfl (by omega) ?_) | refine SW.pure rfl rfl ?_ | (show SW _ _ _ _ (⟨_, Op.fieldAddr _ _ _, _, _, _, none⟩ :: _) _ _; refine SW.st (st_field rfl) rfl ?_) | (show SW _ _ _ _ (⟨_, Op.indexAddr _ _ _, _, _, _, none⟩ :: _) _ _; refine SW.st (st_indexN rfl rfl (by assumption) (by omega)) rfl ?_) | (show SW _ _ _ _ (⟨_, Op.load _ _, _, _, _, none⟩ :: _) _ _; first | refine SW.st (st_load rfl (hb11.cell (i := 0) (v := .int .i64 y.At) rfl)) rfl ?_ | refine SW.st (st_loads rfl rfl ((fun _ _ => hb11.cell))) rfl ?_ | refine SW.st (st_load rfl (hb3.cell (i := 2) (v := .slice r.Free.A r.Free.n r.Free.c) rfl)) rfl ?_) | (show SW _ _ _ _ (⟨_, Op.call ⟨.value (.func _), _, _⟩, _, _, _, none⟩ :: _) _ _; (refine SW.call rfl rfl (cY _) ?_; intro v w1 hw1 hv; subst hv; replace hw := Ext.trans hw hw1; replace hb3 := hb3.ext hw1; replace hb11 := hb11.ext hw1; replace hX := hX.ext hw1; replace hT := hT.ext hw1; replace hK := hK.ext hw1; clear hw1)))
          refine SW.storeO j 2 ⟨y.At, y.Order, t⟩ hX rfl rfl rfl hjn (by decide) rfl (by rw [hget]; rfl) fun w5 hX' hg => ?_
          have hG := hX.gr hg
          replace hw := ext_grown hw hg (Nat.le_refl _) hX.row_ge
          (replace hb3 := hb3.grT hG rfl; replace hT := hT.grT hG rfl; replace hK := hK.grT hG rfl)
          rw [← hfy, ← hy, mapTo_set hjl] at hX'
          repeat' (first | (show CW _ _ _ _ _ _; refine CW.region ?_) | (show Post _ _ _ _ _; first | refine Post.seq ?_ | refine Post.blk ?_) | refine SW.nil ?_ | refine SW.pure rfl rfl ?_ | (show SW _ _ _ _ (⟨_, Op.binOp _ _ _ _ _, _, _, _, none⟩ :: _) _ _; refine SW.st (st_add rfl rfl (by omega) (by omega)) rfl ?_))
          exact Post.again (j + 1) ⟨rfl, rfl, rfl, rfl, rfl, rfl, rfl, trivial⟩ (by omega) ⟨by omega, hw, hK, hb3, hX', hT⟩
        · have hfy : f y = y := by rw [← hf]; unfold stB; rw [if_neg hcond]
          have hsk := mapTo_skip (f := f) hjl (by rw [hy]; exact hfy)
          by_cases hc1 : x.At / 8 * 8 ≤ y.At
          all_goals
            repeat' (first | (show CW _ _ _ _ _ _; first | refine CW.seq ?_ | refine CW.region ?_ | refine CW.condfr rfl (by with_reducible rfl) ?_ | refine CW.condd_f rfl (by omega) ?_ | refine CW.skip ?_) | (show Post _ _ _ _ _; first | refine Post.seq ?_ | refine Post.blk ?_) | refine SW.nil ?_ | (show SW _ _ _ _ (⟨_, _, _, _, _, some _⟩ :: _) _ _; first | refine SW.want_t rfl rfl (by with_reducible rfl) ?_ | refine SW.skip_t rfl rfl (by with_reducible rfl) rfl ?_ | refine SW.splitd_t rfl rfl rfl (by omega) ?_ | refine SW.splitd_f rfl rfl rfl (by omega) ?_) | refine SW.pure rfl rfl ?_ | (show SW _ _ _ _ (⟨_, Op.fieldAddr _ _ _, _, _, _, none⟩ :: _) _ _; refine SW.st (st_field rfl) rfl ?_) | (show SW _ _ _ _ (⟨_, Op.binOp _ _ _ _ _, _, _, _, none⟩ :: _) _ _; refine SW.st (st_add rfl rfl (by omega) (by omega)) rfl ?_) | (show SW _ _ _ _ (⟨_, Op.load _ _, _, _, _, none⟩ :: _) _ _; first | refine SW.st (st_load rfl (hb11.cell (i := 0) (v := .int .i64 y.At) rfl)) rfl ?_ | refine SW.st (st_loads rfl rfl ((fun _ _ => hb11.cell))) rfl ?_) | (show SW _ _ _ _ (⟨_, Op.call ⟨.value (.func _), _, _⟩, _, _, _, none⟩ :: _) _ _; (refine SW.call rfl rfl (cY _) ?_; intro v w1 hw1 hv; subst hv; replace hw := Ext.trans hw hw1; replace hb3 := hb3.ext hw1; replace hb11 := hb11.ext hw1; replace hX := hX.ext hw1; replace hT := hT.ext hw1; replace hK := hK.ext hw1; clear hw1)))
            exact Post.again (j + 1) ⟨rfl, rfl, rfl, rfl, rfl, rfl, rfl, trivial⟩ (by omega) ⟨by omega, hw, hK, hb3, by rw [hsk]; exact hX, hT⟩
      · obtain rfl : j = r.Free.n := by omega
        repeat' (first | (show CW _ _ _ _ _ _; first | refine CW.seq ?_ | refine CW.region ?_ | refine CW.condd_f rfl (by omega) ?_ | refine CW.exit ?_) | (show Post _ _ _ _ _; first | refine Post.seq ?_ | refine Post.seq_exit ?_ | refine Post.hit ?_ | refine Post.again_exit ?_) | refine SW.nil ?_ | refine SW.pure rfl rfl ?_)
        rw [← hFl, mapTo_all, hFl, ← hf] at hX
        exact Post.end0 rfl ⟨_, rfl, hw, hK, by rw [stFree, if_neg h2]; exact hX, hT⟩
end Go.Proofs.YtfommgdbahemfaaDoor
