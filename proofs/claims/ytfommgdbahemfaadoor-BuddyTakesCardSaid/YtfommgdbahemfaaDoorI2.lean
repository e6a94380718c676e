/-
  Contracts: slices.BinarySearchFunc on blocks, buddy.find; without, withBlock, ZoneCopy of the reference.
-/
import Derived.Test.YtfommgdbahemfaaDoorI0
import Derived.Test.YtfommgdbahemfaaDoorI1
set_option linter.unusedVariables false
namespace Go.Proofs.YtfommgdbahemfaaDoor
open Go.RowKit

theorem und_uint : Tryd.prog.underlying 135 = some (.int .u64) := by kernel_rfl
theorem wrap_u64 {z : Int} (h0 : 0 ≤ z) (h1 : z ≤ 9223372036854775807) : IntKind.u64.wrap z = z := by
  simp [IntKind.wrap, IntKind.bits, IntKind.signed]
  omega

section
variable {P : Program} {L : Env} {w : World} {d : Option Nat} {T : TypeId} {pos : String} {af : Array Edge} {g : Option (Nat × Bool)}
theorem st_convI {ft tt : TypeId} {x : Operand} {k k' : IntKind} {i : Int} (hf : P.underlying ft = some (.int k)) (ht : P.underlying tt = some (.int k')) (hx : opv L x = some (.int k i)) :
    St P ⟨d, .convert ft tt x, T, pos, af, g⟩ L w (.int k' (k'.wrap i)) :=
  ⟨fun n a ha w' _ => by
    have e1 := ha.eval hx
    generalize a.eval = ρ at *
    simp [go_sem, e1, convert, run_underlying hf, run_underlying ht, Conv.intToInt]⟩
theorem st_shr1 {t ty : TypeId} {x y : Operand} {yk : IntKind} {i : Int} (hx : opv L x = some (.int .u64 i)) (hy : opv L y = some (.int yk 1)) :
    St P ⟨d, .binOp .shr t x y ty, T, pos, af, g⟩ L w (.int .u64 (i / 2)) :=
  ⟨fun n a ha w' _ => by
    have e1 := ha.eval hx
    have e2 := ha.eval hy
    generalize a.eval = ρ at *
    simp [go_sem, e1, e2]⟩
end

def foundA (l : List Block) (a : Int) : Bool := if h : lbOf l a < l.length then decide ((l[lbOf l a]).At = a) else false

theorem BinaryBlock_ans (A : Option Addr) (n c : Nat) (l : List Block) (a : Int) (w : World) (hl : Sl w 3 encBk A n l) (f : FuncId) [Body Tryd.prog f] (hf : ∀ x ∈ l, ∀ w', Ext w w' → Ans Tryd.prog f ([.agg (encBk x).toArray, .int .i64 a] ++ []) w' fun v _ => v = .int .i64 (x.At - a))
    (hu : l.Pairwise fun x y => x.At < y.At) (hn : n ≤ 1000000000000000000) : Ans Tryd.prog 60 [.slice A n c, .int .i64 a, .func (.func f) #[] #[]] w fun v _ => v = .tuple #[.int .i64 (lbOf l a : Int), .bool (foundA l a)] := by
  refine ans_of Tryd.func60 rfl Tryd.ntmps60 rfl ?_
  have hw := Ext.refl w
  have hA := hl.base
  have hll := hl.len
  rw [List.pairwise_iff_getElem] at hu
  repeat' (first | (show CW _ _ _ _ _ _; first | refine CW.seq ?_ | refine CW.region ?_ | refine CW.block ?_) | (show Post _ _ _ _ _; refine Post.seq ?_) | refine SW.nil ?_ | refine SW.pure rfl rfl ?_ | (show SW _ _ _ _ (⟨_, Op.call ⟨.builtin .len, _, _⟩, _, _, _, none⟩ :: _) _ _; refine SW.st (st_len rfl) rfl ?_))
  refine CW.loop (fun s : Nat × Nat => [(0, .slice A n c), (1, .int .i64 a), (2, .func (.func f) #[] #[]), (8, .int .i64 (n : Int)), (9, .int .i64 (s.1 : Int)), (10, .int .i64 (s.2 : Int))])
    (fun s w' => s.1 ≤ s.2 ∧ s.2 ≤ n ∧ Ext w w' ∧ (∀ (k : Nat) (h : k < l.length), k < s.1 → l[k].At < a) ∧ (∀ (k : Nat) (h : k < l.length), s.2 ≤ k → a ≤ l[k].At)) (fun s => s.2 - s.1) (0, n)
    ⟨rfl, rfl, rfl, rfl, rfl, rfl, trivial⟩ ⟨by omega, by omega, hw, fun k h h' => by omega, fun k h h' => by omega⟩ ?_
  clear hw
  rintro ⟨i, j⟩ w' ⟨hij, hjn, hw, hI, hJ⟩
  simp only at hij hjn hI hJ ⊢
  by_cases hlt : i < j
  · have hk : (i + j) / 2 < n := by omega
    have hkl := hl.lt hk
    have hfk := fun w1 h1 => hf (l[(i + j) / 2]) (List.getElem_mem hkl) w1 h1
    repeat' (first | (show CW _ _ _ _ _ _; first | refine CW.seq ?_ | refine CW.region ?_ | refine CW.block ?_ | refine CW.condd_t rfl (by omega) ?_ | refine CW.skip ?_) | (show Post _ _ _ _ _; refine Post.seq ?_) | refine SW.nil ?_ | refine SW.pure rfl rfl ?_ | (show SW _ _ _ _ (⟨_, Op.binOp _ _ _ _ _, _, _, _, none⟩ :: _) _ _; refine SW.st (st_add rfl rfl (by omega) (by omega)) rfl ?_) | (show SW _ _ _ _ (⟨_, Op.indexAddr _ _ _, _, _, _, none⟩ :: _) _ _; refine SW.st (st_indexN rfl rfl (by assumption) (by omega)) rfl ?_) | (show SW _ _ _ _ (⟨_, Op.load _ _, _, _, _, none⟩ :: _) _ _; refine SW.st (st_loadsx hw rfl rfl ((hl.all hk))) rfl ?_) | (refine SW.st ((st_convI Tryd.underlying3 und_uint rfl).eq (congrArg (Value.int .u64) (wrap_u64 (by omega) (by omega)))) rfl ?_) | (refine SW.st ((st_convI und_uint Tryd.underlying3 rfl).eq (congrArg (Value.int .i64) (wrap_in (by omega) (by omega)))) rfl ?_) | (refine SW.st (st_shr1 rfl rfl) rfl ?_))
    refine SW.callv (cap := []) rfl rfl rfl (hfk _ hw) fun v w1 hw1 hv => ?_
    subst hv
    replace hw := Ext.trans hw hw1
    by_cases hcmp : l[(i + j) / 2].At < a
    · repeat' (first | (show CW _ _ _ _ _ _; first | refine CW.region ?_ | refine CW.condd_t rfl (by omega) ?_) | (show Post _ _ _ _ _; first | refine Post.seq ?_ | refine Post.blk ?_) | refine SW.nil ?_ | refine SW.pure rfl rfl ?_ | (show SW _ _ _ _ (⟨_, Op.binOp _ _ _ _ _, _, _, _, none⟩ :: _) _ _; refine SW.st (st_add rfl rfl (by omega) (by omega)) rfl ?_))
      refine Post.again ((i + j) / 2 + 1, j) ⟨rfl, rfl, rfl, rfl, congrArg (fun z => some (Value.int .i64 z)) (by omega), rfl, trivial⟩ (by simp only; omega) ⟨by simp only; omega, hjn, hw, fun k h h' => ?_, hJ⟩
      simp only at h'
      by_cases e : k = (i + j) / 2
      · subst e; exact hcmp
      · have := hu k ((i + j) / 2) h hkl (by omega)
        omega
    · repeat' (first | (show CW _ _ _ _ _ _; first | refine CW.region ?_ | refine CW.condd_f rfl (by omega) ?_) | (show Post _ _ _ _ _; first | refine Post.seq ?_ | refine Post.blk ?_) | refine SW.nil ?_ | refine SW.pure rfl rfl ?_)
      refine Post.again (i, (i + j) / 2) ⟨rfl, rfl, rfl, rfl, rfl, congrArg (fun z => some (Value.int .i64 z)) (by omega), trivial⟩ (by simp only; omega) ⟨by simp only; omega, by simp only; omega, hw, hI, fun k h h' => ?_⟩
      simp only at h'
      by_cases e : k = (i + j) / 2
      · subst e; omega
      · have := hu ((i + j) / 2) k hkl h (by omega)
        omega
  · obtain rfl : i = j := by omega
    have hlb : lbOf l a = i := lb_spec (by omega) hI (fun h => hJ i h (by omega))
    by_cases hin : i < n
    · have hkl := hl.lt hin
      have hfk := fun w1 h1 => hf (l[i]) (List.getElem_mem hkl) w1 h1
      have hfa : foundA l a = decide (l[i].At = a) := by unfold foundA; simp only [hlb, hkl, dif_pos]
      rw [hlb, hfa]
      repeat' (first | (show CW _ _ _ _ _ _; first | refine CW.seq ?_ | refine CW.region ?_ | refine CW.condd_f rfl (by omega) ?_ | refine CW.exit ?_) | (show Post _ _ _ _ _; first | refine Post.seq ?_ | refine Post.seq_exit ?_ | refine Post.hit ?_ | refine Post.again_exit ?_) | refine SW.nil ?_ | (show SW _ _ _ _ (⟨_, _, _, _, _, some _⟩ :: _) _ _; first | refine SW.want_t rfl rfl (by with_reducible rfl) ?_ | refine SW.splitd_t rfl rfl rfl (by omega) ?_) | refine SW.pure rfl rfl ?_ | (show SW _ _ _ _ (⟨_, Op.indexAddr _ _ _, _, _, _, none⟩ :: _) _ _; refine SW.st (st_indexN rfl rfl (by assumption) (by omega)) rfl ?_) | (show SW _ _ _ _ (⟨_, Op.load _ _, _, _, _, none⟩ :: _) _ _; refine SW.st (st_loadsx hw rfl rfl ((hl.all hin))) rfl ?_))
      refine SW.callv (cap := []) rfl rfl rfl (hfk _ hw) fun v w1 hw1 hv => ?_
      subst hv
      replace hw := Ext.trans hw hw1
      by_cases he : l[i].At = a
      · repeat' (first | (show CW _ _ _ _ _ _; refine CW.ret ?_) | (show Post _ _ _ _ _; refine Post.seq ?_) | refine SW.nil ?_ | (show SW _ _ _ _ (⟨_, _, _, _, _, some _⟩ :: _) _ _; refine SW.want_t rfl rfl (by with_reducible rfl) ?_) | refine SW.pure rfl rfl ?_)
        refine Post.ret2 rfl rfl rfl ⟨_, rfl, hw, ?_⟩
        rw [decide_eq_true he, decide_eq_true (by omega)]
      · repeat' (first | (show CW _ _ _ _ _ _; refine CW.ret ?_) | (show Post _ _ _ _ _; refine Post.seq ?_) | refine SW.nil ?_ | (show SW _ _ _ _ (⟨_, _, _, _, _, some _⟩ :: _) _ _; refine SW.want_t rfl rfl (by with_reducible rfl) ?_) | refine SW.pure rfl rfl ?_)
        refine Post.ret2 rfl rfl rfl ⟨_, rfl, hw, ?_⟩
        rw [decide_eq_false he, decide_eq_false (by omega)]
    · have hfa : foundA l a = false := by unfold foundA; rw [dif_neg (by omega)]
      rw [hlb, hfa]
      repeat' (first | (show CW _ _ _ _ _ _; first | refine CW.seq ?_ | refine CW.region ?_ | refine CW.condd_f rfl (by omega) ?_ | refine CW.ret ?_ | refine CW.exit ?_) | (show Post _ _ _ _ _; first | refine Post.seq ?_ | refine Post.seq_exit ?_ | refine Post.hit ?_ | refine Post.again_exit ?_) | refine SW.nil ?_ | (show SW _ _ _ _ (⟨_, _, _, _, _, some _⟩ :: _) _ _; first | refine SW.skip_t rfl rfl (by with_reducible rfl) rfl ?_ | refine SW.splitd_f rfl rfl rfl (by omega) ?_) | refine SW.pure rfl rfl ?_)
      exact Post.ret2 rfl rfl rfl ⟨_, rfl, hw, rfl⟩

theorem ups_lt {f t : Int} {l : List Block} (h : ups l) (hb : ∀ b ∈ l, blkOk f t b) : l.Pairwise fun x y => x.At < y.At := by
  unfold ups at h
  rw [List.pairwise_iff_getElem] at h ⊢
  intro i j hi hj hij
  have h1 := h i j hi hj hij
  have hp := hb _ (List.getElem_mem hi)
  have := pw_le hp.1.1 hp.1.2.1
  omega

theorem cmpBlock_ans (x : Block) (a : Int) (w : World) (hx : -4000000000000000000 ≤ x.At ∧ x.At ≤ 4000000000000000000) (ha : -4000000000000000000 ≤ a ∧ a ≤ 4000000000000000000) : Ans Tryd.prog 61 ([.agg (encBk x).toArray, .int .i64 a] ++ []) w fun v _ => v = .int .i64 (x.At - a) := by
  refine ans_of Tryd.func61 rfl Tryd.ntmps61 rfl ?_
  refine CW.seq (CW.region (SW.box rfl rfl fun b1 w1 hw hb1b hb1 => ?_))
  repeat' (first | (show CW _ _ _ _ _ _; first | refine CW.seq ?_ | refine CW.region ?_ | refine CW.ret ?_) | (show Post _ _ _ _ _; refine Post.seq ?_) | refine SW.nil ?_ | refine SW.pure rfl rfl ?_ | (show SW _ _ _ _ (⟨_, Op.fieldAddr _ _ _, _, _, _, none⟩ :: _) _ _; refine SW.st (st_field rfl) rfl ?_) | (show SW _ _ _ _ (⟨_, Op.binOp _ _ _ _ _, _, _, _, none⟩ :: _) _ _; refine SW.st (st_sub rfl rfl (by omega) (by omega)) rfl ?_) | (show SW _ _ _ _ (⟨_, Op.load _ _, _, _, _, none⟩ :: _) _ _; refine SW.st (st_load rfl (hb1.cell rfl)) rfl ?_))
  exact Post.ret1 rfl rfl ⟨_, rfl, hw, rfl⟩

theorem Zfind_ans (r : ZRow) (l : List Block) (f t a : Int) (w : World) (hl : Sl w 3 encBk r.Free.A r.Free.n l) (hu : ups l) (hb : ∀ b ∈ l, blkOk f t b) (h0 : 0 ≤ f) (ht : t ≤ 256) (hn : r.Free.n ≤ 1000000000000000000) (ha : -1000 ≤ a ∧ a ≤ 1000) :
    Ans Tryd.prog 24 [.agg (encZ r).toArray, .int .i64 a] w fun v _ => v = .tuple #[.int .i64 (lbOf l a : Int), .bool (foundA l a)] := by
  refine ans_of Tryd.func24 rfl Tryd.ntmps24 rfl ?_
  refine CW.seq (CW.region (SW.box rfl rfl fun b1 w1 hw hb1b hb1 => ?_))
  have cB : ∀ w', Ext w w' → Ans Tryd.prog 60 [.slice r.Free.A r.Free.n r.Free.c, .int .i64 a, .func (.func 61) #[] #[]] w' fun v _ => v = .tuple #[.int .i64 (lbOf l a : Int), .bool (foundA l a)] := fun w' h =>
    BinaryBlock_ans _ _ _ _ _ _ (hl.ext h) _ (fun x hx w1 _ => cmpBlock_ans x a w1 (by have := (hb x hx).1; unfold fitsZ at this; omega) (by omega)) (ups_lt hu hb) hn
  repeat' (first | (show CW _ _ _ _ _ _; first | refine CW.seq ?_ | refine CW.region ?_ | refine CW.ret ?_) | (show Post _ _ _ _ _; refine Post.seq ?_) | refine SW.nil ?_ | refine SW.pure rfl rfl ?_ | (show SW _ _ _ _ (⟨_, Op.fieldAddr _ _ _, _, _, _, none⟩ :: _) _ _; refine SW.st (st_field rfl) rfl ?_) | (show SW _ _ _ _ (⟨_, Op.load _ _, _, _, _, none⟩ :: _) _ _; refine SW.st (st_load rfl (hb1.cell rfl)) rfl ?_) | (show SW _ _ _ _ (⟨_, Op.call ⟨.value (.func _), _, _⟩, _, _, _, none⟩ :: _) _ _; (refine SW.call rfl rfl (cB _ hw) ?_; intro v w1 hw1 hv; subst hv; replace hw := Ext.trans hw hw1; replace hb1 := hb1.ext hw1; clear hw1)))
  exact Post.ret2 rfl rfl rfl ⟨_, rfl, hw, rfl⟩

theorem without_ans (A : Option Addr) (n c : Nat) (l : List Block) (a o : Int) (w : World) (hl : Sl w 3 encBk A n l) (hn : n * 24 ≤ 140737488355328) :
    Ans Tryd.prog 31 [.slice A n c, .int .i64 a, .int .i64 o] w fun v w' => ∃ B c', v = .tuple #[.slice B (without l a o).length c', .bool (l.any (isB a o))] ∧ Own w' w.heap.size 55 3 encBk B (without l a o).length c' (without l a o) := by
  refine ans_of Tryd.func31 rfl Tryd.ntmps31 rfl ?_
  have hw := Ext.refl w
  have hA := hl.base
  have hll := hl.len
  repeat' (first | (show CW _ _ _ _ _ _; first | refine CW.seq ?_ | refine CW.region ?_ | refine CW.block ?_) | (show Post _ _ _ _ _; refine Post.seq ?_) | refine SW.nil ?_ | refine SW.pure rfl rfl ?_)
  refine CW.loop (fun s : Nat × Option Addr × Nat => [(0, .slice A n c), (1, .int .i64 a), (2, .int .i64 o), (8, .slice s.2.1 (without (l.take s.1) a o).length s.2.2), (9, .bool ((l.take s.1).any (isB a o))), (10, .int .i64 (s.1 : Int))])
    (fun s w' => s.1 ≤ n ∧ Ext w w' ∧ Own w' w.heap.size 55 3 encBk s.2.1 (without (l.take s.1) a o).length s.2.2 (without (l.take s.1) a o)) (fun s => n - s.1) (0, none, 0) ⟨rfl, rfl, rfl, rfl, rfl, rfl, trivial⟩ ⟨by omega, hw, Own.nil_ _ _ _ _ _ _⟩ ?_
  clear hw
  rintro ⟨k, B, c'⟩ w' ⟨hk, hw, hO⟩
  simp only at hk hO ⊢
  by_cases hkn : k < n
  · have hkl := hl.lt hkn
    have et := List.take_succ_eq_append_getElem hkl
    have hlen : (without (l.take k) a o).length ≤ k := Nat.le_trans (List.length_filter_le _ _) (by simp; omega)
    cases hi : isB a o l[k]
    · have e1 : without (l.take (k + 1)) a o = without (l.take k) a o ++ [l[k]] := by unfold without; rw [et, List.filter_append]; simp [hi]
      have e2 : (l.take (k + 1)).any (isB a o) = (l.take k).any (isB a o) := by rw [et, List.any_append]; simp [hi]
      have hn1 : ¬ (l[k].At = a ∧ l[k].Order = o) := fun h => by rw [isB_iff.2 h] at hi; cases hi
      by_cases ha : l[k].At = a
      all_goals
        repeat' (first | (show CW _ _ _ _ _ _; first | refine CW.seq ?_ | refine CW.region ?_ | refine CW.block ?_ | refine CW.condfr rfl (by with_reducible rfl) ?_ | refine CW.condd_t rfl (by omega) ?_ | refine CW.condd_f rfl (by omega) ?_ | refine CW.skip ?_) | (show Post _ _ _ _ _; refine Post.seq ?_) | refine SW.nil ?_ | (show SW _ _ _ _ (⟨_, _, _, _, _, some _⟩ :: _) _ _; first | refine SW.want_t rfl rfl (by with_reducible rfl) ?_ | refine SW.skip_t rfl rfl (by with_reducible rfl) rfl ?_ | refine SW.splitd_t rfl rfl rfl (by omega) ?_ | refine SW.splitd_f rfl rfl rfl (by omega) ?_) | refine SW.pure rfl rfl ?_ | (show SW _ _ _ _ (⟨_, Op.fieldAddr _ _ _, _, _, _, none⟩ :: _) _ _; refine SW.st (st_field rfl) rfl ?_) | (show SW _ _ _ _ (⟨_, Op.indexAddr _ _ _, _, _, _, none⟩ :: _) _ _; refine SW.st (st_indexN rfl rfl (by assumption) (by omega)) rfl ?_) | (show SW _ _ _ _ (⟨_, Op.call ⟨.builtin .len, _, _⟩, _, _, _, none⟩ :: _) _ _; refine SW.st (st_len rfl) rfl ?_) | (show SW _ _ _ _ (⟨_, Op.load _ _, _, _, _, none⟩ :: _) _ _; first | refine SW.st (st_loadsx hw rfl rfl ((hl.all hkn))) rfl ?_ | refine SW.st (st_loadx hw rfl (hl.fld hkn rfl)) rfl ?_))
        all_goals first | (exfalso; omega) | skip
        refine SW.build1 rfl rfl rfl rfl rfl fun b w1 hw1 hb hB => ?_
        replace hw := Ext.trans hw hw1
        replace hO := hO.ext hw1
        refine SW.append hO (Blk.sl1 (enc := encBk) hB) hw.size rfl rfl rfl (by omega) (by omega) fun A2 c2 w2 hO1 hg => ?_
        replace hw := ext_grown hw hg (Nat.le_refl _) hO.row_ge
        repeat' (first | (show CW _ _ _ _ _ _; refine CW.region ?_) | (show Post _ _ _ _ _; first | refine Post.seq ?_ | refine Post.blk ?_) | refine SW.nil ?_ | refine SW.pure rfl rfl ?_ | (show SW _ _ _ _ (⟨_, Op.binOp _ _ _ _ _, _, _, _, none⟩ :: _) _ _; refine SW.st (st_add rfl rfl (by omega) (by omega)) rfl ?_))
        have e3 : (without (l.take (k + 1)) a o).length = (without (l.take k) a o).length + 1 := by rw [e1]; simp
        refine Post.again (k + 1, A2, c2) ⟨rfl, rfl, rfl, by simp only; rw [e3]; rfl, by simp only; rw [e2]; rfl, rfl, trivial⟩ (by simp only; omega) ⟨by simp only; omega, hw, ?_⟩
        simp only
        rw [e3, e1]
        exact hO1
    · have e1 : without (l.take (k + 1)) a o = without (l.take k) a o := by unfold without; rw [et, List.filter_append]; simp [hi]
      have e2 : (l.take (k + 1)).any (isB a o) = true := by rw [et, List.any_append]; simp [hi]
      obtain ⟨h1, h2⟩ := isB_iff.1 hi
      repeat' (first | (show CW _ _ _ _ _ _; first | refine CW.seq ?_ | refine CW.region ?_ | refine CW.block ?_ | refine CW.condd_t rfl (by omega) ?_ | refine CW.skip ?_) | (show Post _ _ _ _ _; first | refine Post.seq ?_ | refine Post.blk ?_) | refine SW.nil ?_ | (show SW _ _ _ _ (⟨_, _, _, _, _, some _⟩ :: _) _ _; first | refine SW.want_t rfl rfl (by with_reducible rfl) ?_ | refine SW.splitd_t rfl rfl rfl (by omega) ?_) | refine SW.pure rfl rfl ?_ | (show SW _ _ _ _ (⟨_, Op.fieldAddr _ _ _, _, _, _, none⟩ :: _) _ _; refine SW.st (st_field rfl) rfl ?_) | (show SW _ _ _ _ (⟨_, Op.binOp _ _ _ _ _, _, _, _, none⟩ :: _) _ _; refine SW.st (st_add rfl rfl (by omega) (by omega)) rfl ?_) | (show SW _ _ _ _ (⟨_, Op.indexAddr _ _ _, _, _, _, none⟩ :: _) _ _; refine SW.st (st_indexN rfl rfl (by assumption) (by omega)) rfl ?_) | (show SW _ _ _ _ (⟨_, Op.call ⟨.builtin .len, _, _⟩, _, _, _, none⟩ :: _) _ _; refine SW.st (st_len rfl) rfl ?_) | (show SW _ _ _ _ (⟨_, Op.load _ _, _, _, _, none⟩ :: _) _ _; refine SW.st (st_loadx hw rfl (hl.fld hkn rfl)) rfl ?_))
      refine Post.again (k + 1, B, c') ⟨rfl, rfl, rfl, by simp only; rw [e1]; rfl, by simp only; rw [e2]; rfl, rfl, trivial⟩ (by simp only; omega) ⟨by simp only; omega, hw, ?_⟩
      simp only
      rw [e1]
      exact hO
  · repeat' (first | (show CW _ _ _ _ _ _; first | refine CW.seq ?_ | refine CW.region ?_ | refine CW.condd_f rfl (by omega) ?_ | refine CW.ret ?_ | refine CW.exit ?_) | (show Post _ _ _ _ _; first | refine Post.seq ?_ | refine Post.seq_exit ?_ | refine Post.hit ?_ | refine Post.again_exit ?_) | refine SW.nil ?_ | refine SW.pure rfl rfl ?_ | (show SW _ _ _ _ (⟨_, Op.call ⟨.builtin .len, _, _⟩, _, _, _, none⟩ :: _) _ _; refine SW.st (st_len rfl) rfl ?_))
    have et : l.take k = l := List.take_of_length_le (by omega)
    rw [et] at hO
    refine Post.ret2 rfl rfl rfl ⟨_, rfl, hw, B, c', ?_, hO⟩
    rw [et]

def gtOf (l : List Block) (a : Int) : Nat := l.findIdx fun b => decide (a < b.At)
theorem gt_lb {l : List Block} {a : Int} (h : ∀ x ∈ l, x.At ≠ a) : gtOf l a = lbOf l a := by
  unfold gtOf lbOf
  have : ∀ q : List Block, (∀ x ∈ q, x.At ≠ a) → q.findIdx (fun b => decide (a < b.At)) = q.findIdx (fun b => decide (a ≤ b.At)) := by
    intro q
    induction q with
    | nil => intro _; rfl
    | cons x r ih =>
      intro hq
      have h1 := hq x (by simp)
      have h2 := ih (fun y hy => hq y (by simp [hy]))
      simp only [List.findIdx_cons, h2]
      by_cases e : a < x.At
      · rw [decide_eq_true e, decide_eq_true (by omega)]
      · rw [decide_eq_false e, decide_eq_false (by omega)]
  exact this l h
end Go.Proofs.YtfommgdbahemfaaDoor
