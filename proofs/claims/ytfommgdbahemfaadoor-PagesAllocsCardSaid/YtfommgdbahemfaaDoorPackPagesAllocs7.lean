/-
  Texts of the claim PagesAllocs, part 7: what its theorem leans on.
-/
import Derived.Test.YtfommgdbahemfaaDoorPackPagesAllocs5
import Derived.Test.YtfommgdbahemfaaDoorPackPagesAllocs6
import Derived.Test.YtfommgdbahemfaaDoorPackPagesAllocs3
set_option linter.unusedVariables false
namespace Go.Proofs.YtfommgdbahemfaaDoor
open Go.RowKit
theorem und_uint : Tryd.prog.underlying 135 = some (.int .u64) := by kernel_rfl
theorem wrap_u64 {z : Int} (h0 : 0 ≤ z) (h1 : z ≤ 9223372036854775807) : IntKind.u64.wrap z = z := by
 simp [IntKind.wrap, IntKind.bits, IntKind.signed]
 omega
section
variable {P : Program} {L : Env} {w : World} {d : Option Nat} {T : TypeId} {pos : String} {af : Array Edge} {g : Option (Nat × Bool)}
theorem st_convI {ft tt : TypeId} {x : Operand} {k k' : IntKind} {i : Int} (hf : P.underlying ft = some (.int k)) (ht : P.underlying tt = some (.int k')) (hx : opv L x = some (.int k i)) :
  St P ⟨d, .convert ft tt x, T, pos, af, g⟩ L w (.int k' (k'.wrap i)) :=
 ⟨fun n a ha w' _ => by
  have e1 := ha.eval hx
  generalize a.eval = ρ at *
  simp [go_sem, e1, convert, run_underlying hf, run_underlying ht, Conv.intToInt]⟩
theorem st_shr1 {t ty : TypeId} {x y : Operand} {yk : IntKind} {i : Int} (hx : opv L x = some (.int .u64 i)) (hy : opv L y = some (.int yk 1)) :
  St P ⟨d, .binOp .shr t x y ty, T, pos, af, g⟩ L w (.int .u64 (i / 2)) :=
 ⟨fun n a ha w' _ => by
  have e1 := ha.eval hx
  have e2 := ha.eval hy
  generalize a.eval = ρ at *
  simp [go_sem, e1, e2]⟩
end
def foundA (l : List Block) (a : Int) : Bool := if h : lbOf l a < l.length then decide ((l[lbOf l a]).At = a) else false
theorem BinaryBlock_ans (A : Option Addr) (n c : Nat) (l : List Block) (a : Int) (w : World) (hl : Sl w 3 encBk A n l) (f : FuncId) [Body Tryd.prog f] (hf : ∀ x ∈ l, ∀ w', Ext w w' → Ans Tryd.prog f ([.agg (encBk x).toArray, .int .i64 a] ++ []) w' fun v _ => v = .int .i64 (x.At - a))
  (hu : l.Pairwise fun x y => x.At < y.At) (hn : n ≤ 1000000000000000000) : Ans Tryd.prog 60 [.slice A n c, .int .i64 a, .func (.func f) #[] #[]] w fun v _ => v = .tuple #[.int .i64 (lbOf l a : Int), .bool (foundA l a)] := by
 refine ans_of Tryd.func60 rfl Tryd.ntmps60 rfl ?_
 have hw := Ext.refl w
 have hA := hl.base
 have hll := hl.len
 rw [List.pairwise_iff_getElem] at hu
 repeat' (first | (show CW _ _ _ _ _ _; first | refine CW.seq ?_ | refine CW.region ?_ | refine CW.block ?_) | (show Post _ _ _ _ _; refine Post.seq ?_) | refine SW.nil ?_ | refine SW.pure rfl rfl ?_ | (show SW _ _ _ _ (⟨_, Op.call ⟨.builtin .len, _, _⟩, _, _, _, none⟩ :: _) _ _; refine SW.st (st_len rfl) rfl ?_))
 refine CW.loop (fun s : Nat × Nat => [(0, .slice A n c), (1, .int .i64 a), (2, .func (.func f) #[] #[]), (8, .int .i64 (n : Int)), (9, .int .i64 (s.1 : Int)), (10, .int .i64 (s.2 : Int))])
  (fun s w' => s.1 ≤ s.2 ∧ s.2 ≤ n ∧ Ext w w' ∧ (∀ (k : Nat) (h : k < l.length), k < s.1 → l[k].At < a) ∧ (∀ (k : Nat) (h : k < l.length), s.2 ≤ k → a ≤ l[k].At)) (fun s => s.2 - s.1) (0, n)
  ⟨rfl, rfl, rfl, rfl, rfl, rfl, trivial⟩ ⟨by omega, by omega, hw, fun k h h' => by omega, fun k h h' => by omega⟩ ?_
 clear hw
 rintro ⟨i, j⟩ w' ⟨hij, hjn, hw, hI, hJ⟩
 simp only at hij hjn hI hJ ⊢
 by_cases hlt : i < j
 ·have hk : (i + j) / 2 < n := by omega
  have hkl := hl.lt hk
  have hfk := fun w1 h1 => hf (l[(i + j) / 2]) (List.getElem_mem hkl) w1 h1
  repeat' (first | (show CW _ _ _ _ _ _; first | refine CW.seq ?_ | refine CW.region ?_ | refine CW.block ?_ | refine CW.condd_t rfl (by omega) ?_ | refine CW.skip ?_) | (show Post _ _ _ _ _; refine Post.seq ?_) | refine SW.nil ?_ | refine SW.pure rfl rfl ?_ | (show SW _ _ _ _ (⟨_, Op.binOp _ _ _ _ _, _, _, _, none⟩ :: _) _ _; refine SW.st (st_add rfl rfl (by omega) (by omega)) rfl ?_) | (show SW _ _ _ _ (⟨_, Op.indexAddr _ _ _, _, _, _, none⟩ :: _) _ _; refine SW.st (st_indexN rfl rfl (by assumption) (by omega)) rfl ?_) | (show SW _ _ _ _ (⟨_, Op.load _ _, _, _, _, none⟩ :: _) _ _; refine SW.st (st_loadsx hw rfl rfl ((hl.all hk))) rfl ?_) | (refine SW.st ((st_convI Tryd.underlying3 und_uint rfl).eq (congrArg (Value.int .u64) (wrap_u64 (by omega) (by omega)))) rfl ?_) | (refine SW.st ((st_convI und_uint Tryd.underlying3 rfl).eq (congrArg (Value.int .i64) (wrap_in (by omega) (by omega)))) rfl ?_) | (refine SW.st (st_shr1 rfl rfl) rfl ?_))
  refine SW.callv (cap := []) rfl rfl rfl (hfk _ hw) fun v w1 hw1 hv => ?_
  subst hv
  replace hw := Ext.trans hw hw1
  by_cases hcmp : l[(i + j) / 2].At < a
  ·repeat' (first | (show CW _ _ _ _ _ _; first | refine CW.region ?_ | refine CW.condd_t rfl (by omega) ?_) | (show Post _ _ _ _ _; first | refine Post.seq ?_ | refine Post.blk ?_) | refine SW.nil ?_ | refine SW.pure rfl rfl ?_ | (show SW _ _ _ _ (⟨_, Op.binOp _ _ _ _ _, _, _, _, none⟩ :: _) _ _; refine SW.st (st_add rfl rfl (by omega) (by omega)) rfl ?_))
   refine Post.again ((i + j) / 2 + 1, j) ⟨rfl, rfl, rfl, rfl, congrArg (fun z => some (Value.int .i64 z)) (by omega), rfl, trivial⟩ (by simp only; omega) ⟨by simp only; omega, hjn, hw, fun k h h' => ?_, hJ⟩
   simp only at h'
   by_cases e : k = (i + j) / 2
   ·subst e; exact hcmp
   ·have := hu k ((i + j) / 2) h hkl (by omega)
    omega
  ·repeat' (first | (show CW _ _ _ _ _ _; first | refine CW.region ?_ | refine CW.condd_f rfl (by omega) ?_) | (show Post _ _ _ _ _; first | refine Post.seq ?_ | refine Post.blk ?_) | refine SW.nil ?_ | refine SW.pure rfl rfl ?_)
   refine Post.again (i, (i + j) / 2) ⟨rfl, rfl, rfl, rfl, rfl, congrArg (fun z => some (Value.int .i64 z)) (by omega), trivial⟩ (by simp only; omega) ⟨by simp only; omega, by simp only; omega, hw, hI, fun k h h' => ?_⟩
   simp only at h'
   by_cases e : k = (i + j) / 2
   ·subst e; omega
   ·have := hu ((i + j) / 2) k hkl h (by omega)
    omega
 ·obtain rfl : i = j := by omega
  have hlb : lbOf l a = i := lb_spec (by omega) hI (fun h => hJ i h (by omega))
  by_cases hin : i < n
  ·have hkl := hl.lt hin
   have hfk := fun w1 h1 => hf (l[i]) (List.getElem_mem hkl) w1 h1
   have hfa : foundA l a = decide (l[i].At = a) := by unfold foundA; simp only [hlb, hkl, dif_pos]
   rw [hlb, hfa]
   repeat' (first | (show CW _ _ _ _ _ _; first | refine CW.seq ?_ | refine CW.region ?_ | refine CW.condd_f rfl (by omega) ?_ | refine CW.exit ?_) | (show Post _ _ _ _ _; first | refine Post.seq ?_ | refine Post.seq_exit ?_ | refine Post.hit ?_ | refine Post.again_exit ?_) | refine SW.nil ?_ | (show SW _ _ _ _ (⟨_, _, _, _, _, some _⟩ :: _) _ _; first | refine SW.want_t rfl rfl (by with_reducible rfl) ?_ | refine SW.splitd_t rfl rfl rfl (by omega) ?_) | refine SW.pure rfl rfl ?_ | (show SW _ _ _ _ (⟨_, Op.indexAddr _ _ _, _, _, _, none⟩ :: _) _ _; refine SW.st (st_indexN rfl rfl (by assumption) (by omega)) rfl ?_) | (show SW _ _ _ _ (⟨_, Op.load _ _, _, _, _, none⟩ :: _) _ _; refine SW.st (st_loadsx hw rfl rfl ((hl.all hin))) rfl ?_))
   refine SW.callv (cap := []) rfl rfl rfl (hfk _ hw) fun v w1 hw1 hv => ?_
   subst hv
   replace hw := Ext.trans hw hw1
   by_cases he : l[i].At = a
   ·repeat' (first | (show CW _ _ _ _ _ _; refine CW.ret ?_) | (show Post _ _ _ _ _; refine Post.seq ?_) | refine SW.nil ?_ | (show SW _ _ _ _ (⟨_, _, _, _, _, some _⟩ :: _) _ _; refine SW.want_t rfl rfl (by with_reducible rfl) ?_) | refine SW.pure rfl rfl ?_)
    refine Post.ret2 rfl rfl rfl ⟨_, rfl, hw, ?_⟩
    rw [decide_eq_true he, decide_eq_true (by omega)]
   ·repeat' (first | (show CW _ _ _ _ _ _; refine CW.ret ?_) | (show Post _ _ _ _ _; refine Post.seq ?_) | refine SW.nil ?_ | (show SW _ _ _ _ (⟨_, _, _, _, _, some _⟩ :: _) _ _; refine SW.want_t rfl rfl (by with_reducible rfl) ?_) | refine SW.pure rfl rfl ?_)
    refine Post.ret2 rfl rfl rfl ⟨_, rfl, hw, ?_⟩
    rw [decide_eq_false he, decide_eq_false (by omega)]
  ·have hfa : foundA l a = false := by unfold foundA; rw [dif_neg (by omega)]
   rw [hlb, hfa]
   repeat' (first | (show CW _ _ _ _ _ _; first | refine CW.seq ?_ | refine CW.region ?_ | refine CW.condd_f rfl (by omega) ?_ | refine CW.ret ?_ | refine CW.exit ?_) | (show Post _ _ _ _ _; first | refine Post.seq ?_ | refine Post.seq_exit ?_ | refine Post.hit ?_ | refine Post.again_exit ?_) | refine SW.nil ?_ | (show SW _ _ _ _ (⟨_, _, _, _, _, some _⟩ :: _) _ _; first | refine SW.skip_t rfl rfl (by with_reducible rfl) rfl ?_ | refine SW.splitd_f rfl rfl rfl (by omega) ?_) | refine SW.pure rfl rfl ?_)
   exact Post.ret2 rfl rfl rfl ⟨_, rfl, hw, rfl⟩
theorem ups_lt {f t : Int} {l : List Block} (h : ups l) (hb : ∀ b ∈ l, blkOk f t b) : l.Pairwise fun x y => x.At < y.At := by
 unfold ups at h
 rw [List.pairwise_iff_getElem] at h ⊢
 intro i j hi hj hij
 have h1 := h i j hi hj hij
 have hp := hb _ (List.getElem_mem hi)
 have := pw_le hp.1.1 hp.1.2.1
 omega
theorem cmpBlock_ans (x : Block) (a : Int) (w : World) (hx : -4000000000000000000 ≤ x.At ∧ x.At ≤ 4000000000000000000) (ha : -4000000000000000000 ≤ a ∧ a ≤ 4000000000000000000) : Ans Tryd.prog 61 ([.agg (encBk x).toArray, .int .i64 a] ++ []) w fun v _ => v = .int .i64 (x.At - a) := by
 refine ans_of Tryd.func61 rfl Tryd.ntmps61 rfl ?_
 refine CW.seq (CW.region (SW.box rfl rfl fun b1 w1 hw hb1b hb1 => ?_))
 repeat' (first | (show CW _ _ _ _ _ _; first | refine CW.seq ?_ | refine CW.region ?_ | refine CW.ret ?_) | (show Post _ _ _ _ _; refine Post.seq ?_) | refine SW.nil ?_ | refine SW.pure rfl rfl ?_ | (show SW _ _ _ _ (⟨_, Op.fieldAddr _ _ _, _, _, _, none⟩ :: _) _ _; refine SW.st (st_field rfl) rfl ?_) | (show SW _ _ _ _ (⟨_, Op.binOp _ _ _ _ _, _, _, _, none⟩ :: _) _ _; refine SW.st (st_sub rfl rfl (by omega) (by omega)) rfl ?_) | (show SW _ _ _ _ (⟨_, Op.load _ _, _, _, _, none⟩ :: _) _ _; refine SW.st (st_load rfl (hb1.cell rfl)) rfl ?_))
 exact Post.ret1 rfl rfl ⟨_, rfl, hw, rfl⟩
theorem Zfind_ans (r : ZRow) (l : List Block) (f t a : Int) (w : World) (hl : Sl w 3 encBk r.Free.A r.Free.n l) (hu : ups l) (hb : ∀ b ∈ l, blkOk f t b) (h0 : 0 ≤ f) (ht : t ≤ 256) (hn : r.Free.n ≤ 1000000000000000000) (ha : -1000 ≤ a ∧ a ≤ 1000) :
  Ans Tryd.prog 24 [.agg (encZ r).toArray, .int .i64 a] w fun v _ => v = .tuple #[.int .i64 (lbOf l a : Int), .bool (foundA l a)] := by
 refine ans_of Tryd.func24 rfl Tryd.ntmps24 rfl ?_
 refine CW.seq (CW.region (SW.box rfl rfl fun b1 w1 hw hb1b hb1 => ?_))
 have cB : ∀ w', Ext w w' → Ans Tryd.prog 60 [.slice r.Free.A r.Free.n r.Free.c, .int .i64 a, .func (.func 61) #[] #[]] w' fun v _ => v = .tuple #[.int .i64 (lbOf l a : Int), .bool (foundA l a)] := fun w' h =>
  BinaryBlock_ans _ _ _ _ _ _ (hl.ext h) _ (fun x hx w1 _ => cmpBlock_ans x a w1 (by have := (hb x hx).1; unfold fitsZ at this; omega) (by omega)) (ups_lt hu hb) hn
 repeat' (first | (show CW _ _ _ _ _ _; first | refine CW.seq ?_ | refine CW.region ?_ | refine CW.ret ?_) | (show Post _ _ _ _ _; refine Post.seq ?_) | refine SW.nil ?_ | refine SW.pure rfl rfl ?_ | (show SW _ _ _ _ (⟨_, Op.fieldAddr _ _ _, _, _, _, none⟩ :: _) _ _; refine SW.st (st_field rfl) rfl ?_) | (show SW _ _ _ _ (⟨_, Op.load _ _, _, _, _, none⟩ :: _) _ _; refine SW.st (st_load rfl (hb1.cell rfl)) rfl ?_) | (show SW _ _ _ _ (⟨_, Op.call ⟨.value (.func _), _, _⟩, _, _, _, none⟩ :: _) _ _; (refine SW.call rfl rfl (cB _ hw) ?_; intro v w1 hw1 hv; subst hv; replace hw := Ext.trans hw hw1; replace hb1 := hb1.ext hw1; clear hw1)))
 exact Post.ret2 rfl rfl rfl ⟨_, rfl, hw, rfl⟩
theorem without_ans (A : Option Addr) (n c : Nat) (l : List Block) (a o : Int) (w : World) (hl : Sl w 3 encBk A n l) (hn : n * 24 ≤ 140737488355328) :
  Ans Tryd.prog 31 [.slice A n c, .int .i64 a, .int .i64 o] w fun v w' => ∃ B c', v = .tuple #[.slice B (without l a o).length c', .bool (l.any (isB a o))] ∧ Own w' w.heap.size 55 3 encBk B (without l a o).length c' (without l a o) := by
 refine ans_of Tryd.func31 rfl Tryd.ntmps31 rfl ?_
 have hw := Ext.refl w
 have hA := hl.base
 have hll := hl.len
 repeat' (first | (show CW _ _ _ _ _ _; first | refine CW.seq ?_ | refine CW.region ?_ | refine CW.block ?_) | (show Post _ _ _ _ _; refine Post.seq ?_) | refine SW.nil ?_ | refine SW.pure rfl rfl ?_)
 refine CW.loop (fun s : Nat × Option Addr × Nat => [(0, .slice A n c), (1, .int .i64 a), (2, .int .i64 o), (8, .slice s.2.1 (without (l.take s.1) a o).length s.2.2), (9, .bool ((l.take s.1).any (isB a o))), (10, .int .i64 (s.1 : Int))])
  (fun s w' => s.1 ≤ n ∧ Ext w w' ∧ Own w' w.heap.size 55 3 encBk s.2.1 (without (l.take s.1) a o).length s.2.2 (without (l.take s.1) a o)) (fun s => n - s.1) (0, none, 0) ⟨rfl, rfl, rfl, rfl, rfl, rfl, trivial⟩ ⟨by omega, hw, Own.nil_ _ _ _ _ _ _⟩ ?_
 clear hw
 rintro ⟨k, B, c'⟩ w' ⟨hk, hw, hO⟩
 simp only at hk hO ⊢
 by_cases hkn : k < n
 ·have hkl := hl.lt hkn
  have et := List.take_succ_eq_append_getElem hkl
  have hlen : (without (l.take k) a o).length ≤ k := Nat.le_trans (List.length_filter_le _ _) (by simp; omega)
  cases hi : isB a o l[k]
  ·have e1 : without (l.take (k + 1)) a o = without (l.take k) a o ++ [l[k]] := by unfold without; rw [et, List.filter_append]; simp [hi]
   have e2 : (l.take (k + 1)).any (isB a o) = (l.take k).any (isB a o) := by rw [et, List.any_append]; simp [hi]
   have hn1 : ¬ (l[k].At = a ∧ l[k].Order = o) := fun h => by rw [isB_iff.2 h] at hi; cases hi
   by_cases ha : l[k].At = a
   all_goals
    repeat' (first | (show CW _ _ _ _ _ _; first | refine CW.seq ?_ | refine CW.region ?_ | refine CW.block ?_ | refine CW.condfr rfl (by with_reducible rfl) ?_ | refine CW.condd_t rfl (by omega) ?_ | refine CW.condd_f rfl (by omega) ?_ | refine CW.skip ?_) | (show Post _ _ _ _ _; refine Post.seq ?_) | refine SW.nil ?_ | (show SW _ _ _ _ (⟨_, _, _, _, _, some _⟩ :: _) _ _; first | refine SW.want_t rfl rfl (by with_reducible rfl) ?_ | refine SW.skip_t rfl rfl (by with_reducible rfl) rfl ?_ | refine SW.splitd_t rfl rfl rfl (by omega) ?_ | refine SW.splitd_f rfl rfl rfl (by omega) ?_) | refine SW.pure rfl rfl ?_ | (show SW _ _ _ _ (⟨_, Op.fieldAddr _ _ _, _, _, _, none⟩ :: _) _ _; refine SW.st (st_field rfl) rfl ?_) | (show SW _ _ _ _ (⟨_, Op.indexAddr _ _ _, _, _, _, none⟩ :: _) _ _; refine SW.st (st_indexN rfl rfl (by assumption) (by omega)) rfl ?_) | (show SW _ _ _ _ (⟨_, Op.call ⟨.builtin .len, _, _⟩, _, _, _, none⟩ :: _) _ _; refine SW.st (st_len rfl) rfl ?_) | (show SW _ _ _ _ (⟨_, Op.load _ _, _, _, _, none⟩ :: _) _ _; first | refine SW.st (st_loadsx hw rfl rfl ((hl.all hkn))) rfl ?_ | refine SW.st (st_loadx hw rfl (hl.fld hkn rfl)) rfl ?_))
    all_goals first | (exfalso; omega) | skip
    refine SW.build1 rfl rfl rfl rfl rfl fun b w1 hw1 hb hB => ?_
    replace hw := Ext.trans hw hw1
    replace hO := hO.ext hw1
    refine SW.append hO (Blk.sl1 (enc := encBk) hB) hw.size rfl rfl rfl (by omega) (by omega) fun A2 c2 w2 hO1 hg => ?_
    replace hw := ext_grown hw hg (Nat.le_refl _) hO.row_ge
    repeat' (first | (show CW _ _ _ _ _ _; refine CW.region ?_) | (show Post _ _ _ _ _; first | refine Post.seq ?_ | refine Post.blk ?_) | refine SW.nil ?_ | refine SW.pure rfl rfl ?_ | (show SW _ _ _ _ (⟨_, Op.binOp _ _ _ _ _, _, _, _, none⟩ :: _) _ _; refine SW.st (st_add rfl rfl (by omega) (by omega)) rfl ?_))
    have e3 : (without (l.take (k + 1)) a o).length = (without (l.take k) a o).length + 1 := by rw [e1]; simp
    refine Post.again (k + 1, A2, c2) ⟨rfl, rfl, rfl, by simp only; rw [e3]; rfl, by simp only; rw [e2]; rfl, rfl, trivial⟩ (by simp only; omega) ⟨by simp only; omega, hw, ?_⟩
    simp only
    rw [e3, e1]
    exact hO1
  ·have e1 : without (l.take (k + 1)) a o = without (l.take k) a o := by unfold without; rw [et, List.filter_append]; simp [hi]
   have e2 : (l.take (k + 1)).any (isB a o) = true := by rw [et, List.any_append]; simp [hi]
   obtain ⟨h1, h2⟩ := isB_iff.1 hi
   repeat' (first | (show CW _ _ _ _ _ _; first | refine CW.seq ?_ | refine CW.region ?_ | refine CW.block ?_ | refine CW.condd_t rfl (by omega) ?_ | refine CW.skip ?_) | (show Post _ _ _ _ _; first | refine Post.seq ?_ | refine Post.blk ?_) | refine SW.nil ?_ | (show SW _ _ _ _ (⟨_, _, _, _, _, some _⟩ :: _) _ _; first | refine SW.want_t rfl rfl (by with_reducible rfl) ?_ | refine SW.splitd_t rfl rfl rfl (by omega) ?_) | refine SW.pure rfl rfl ?_ | (show SW _ _ _ _ (⟨_, Op.fieldAddr _ _ _, _, _, _, none⟩ :: _) _ _; refine SW.st (st_field rfl) rfl ?_) | (show SW _ _ _ _ (⟨_, Op.binOp _ _ _ _ _, _, _, _, none⟩ :: _) _ _; refine SW.st (st_add rfl rfl (by omega) (by omega)) rfl ?_) | (show SW _ _ _ _ (⟨_, Op.indexAddr _ _ _, _, _, _, none⟩ :: _) _ _; refine SW.st (st_indexN rfl rfl (by assumption) (by omega)) rfl ?_) | (show SW _ _ _ _ (⟨_, Op.call ⟨.builtin .len, _, _⟩, _, _, _, none⟩ :: _) _ _; refine SW.st (st_len rfl) rfl ?_) | (show SW _ _ _ _ (⟨_, Op.load _ _, _, _, _, none⟩ :: _) _ _; refine SW.st (st_loadx hw rfl (hl.fld hkn rfl)) rfl ?_))
   refine Post.again (k + 1, B, c') ⟨rfl, rfl, rfl, by simp only; rw [e1]; rfl, by simp only; rw [e2]; rfl, rfl, trivial⟩ (by simp only; omega) ⟨by simp only; omega, hw, ?_⟩
   simp only
   rw [e1]
   exact hO
 ·repeat' (first | (show CW _ _ _ _ _ _; first | refine CW.seq ?_ | refine CW.region ?_ | refine CW.condd_f rfl (by omega) ?_ | refine CW.ret ?_ | refine CW.exit ?_) | (show Post _ _ _ _ _; first | refine Post.seq ?_ | refine Post.seq_exit ?_ | refine Post.hit ?_ | refine Post.again_exit ?_) | refine SW.nil ?_ | refine SW.pure rfl rfl ?_ | (show SW _ _ _ _ (⟨_, Op.call ⟨.builtin .len, _, _⟩, _, _, _, none⟩ :: _) _ _; refine SW.st (st_len rfl) rfl ?_))
  have et : l.take k = l := List.take_of_length_le (by omega)
  rw [et] at hO
  refine Post.ret2 rfl rfl rfl ⟨_, rfl, hw, B, c', ?_, hO⟩
  rw [et]
def gtOf (l : List Block) (a : Int) : Nat := l.findIdx fun b => decide (a < b.At)
theorem gt_lb {l : List Block} {a : Int} (h : ∀ x ∈ l, x.At ≠ a) : gtOf l a = lbOf l a := by
 unfold gtOf lbOf
 have : ∀ q : List Block, (∀ x ∈ q, x.At ≠ a) → q.findIdx (fun b => decide (a < b.At)) = q.findIdx (fun b => decide (a ≤ b.At)) := by
  intro q
  induction q with
  | nil => intro _; rfl
  | cons x r ih =>
   intro hq
   have h1 := hq x (by simp)
   have h2 := ih (fun y hy => hq y (by simp [hy]))
   simp only [List.findIdx_cons, h2]
   by_cases e : a < x.At
   ·rw [decide_eq_true e, decide_eq_true (by omega)]
   ·rw [decide_eq_false e, decide_eq_false (by omega)]
 exact this l h
end Go.Proofs.YtfommgdbahemfaaDoor
set_option linter.unusedVariables false
namespace Go.Proofs.YtfommgdbahemfaaDoor
open Go.RowKit
set_option maxHeartbeats 4000000 in
theorem withBlock_ans (A : Option Addr) (n c : Nat) (l : List Block) (x : Block) (w : World) (hl : Sl w 3 encBk A n l) (hn : (n + 1) * 24 ≤ 140737488355328) :
  Ans Tryd.prog 32 [.slice A n c, .agg (encBk x).toArray] w fun v w' => ∃ B c', v = .slice B (n + 1) c' ∧ Own w' w.heap.size 55 3 encBk B (n + 1) c' (insAt l (gtOf l x.At) x) := by
 refine ans_of Tryd.func32 rfl Tryd.ntmps32 rfl ?_
 refine CW.seq (CW.region (SW.box rfl rfl fun b3 w1 hw hb3b hb3 => ?_))
 have hb3w := hb3b
 have hbd : ∀ m, m ≤ n → (m + 1) * 24 ≤ 140737488355328 := fun m h => Nat.le_trans (Nat.mul_le_mul_right 24 (Nat.succ_le_succ h)) hn
 clear hn
 have hn : n ≤ 1000000000000000000 := by have := hbd n (Nat.le_refl _); omega
 have hA := hl.base
 have hll := hl.len
 obtain ⟨g, hg0⟩ : ∃ g, gtOf l x.At = g := ⟨_, rfl⟩
 have hgl : g ≤ l.length := by rw [← hg0]; exact List.findIdx_le_length
 have hg1 : ∀ h : g < l.length, x.At < l[g].At := fun h => by
  subst hg0
  have := List.findIdx_getElem (w := h)
  exact of_decide_eq_true this
 have hg2 : ∀ (j : Nat) (h : j < g), (l[j]'(by omega)).At ≤ x.At := fun j h => by
  subst hg0
  have := List.not_of_lt_findIdx h
  simpa using this
 rw [hg0]
 clear hg0
 repeat' (first | (show CW _ _ _ _ _ _; first | refine CW.seq ?_ | refine CW.region ?_ | refine CW.block ?_) | (show Post _ _ _ _ _; refine Post.seq ?_) | refine SW.nil ?_ | refine SW.pure rfl rfl ?_)
 refine CW.loop (fun s : Nat × Option Addr × Nat => [(0, .slice A n c), (3, .pointer (some ⟨b3, 0, none⟩)), (5, .slice s.2.1 (if g < s.1 then s.1 + 1 else s.1) s.2.2), (6, .bool (decide (g < s.1))), (7, .int .i64 (s.1 : Int))])
  (fun s w' => s.1 ≤ n ∧ Ext w w' ∧ Blk w' b3 55 (encBk x) ∧ Own w' (b3 + 1) 55 3 encBk s.2.1 (if g < s.1 then s.1 + 1 else s.1) s.2.2 (if g < s.1 then insAt (l.take s.1) (g) x else l.take s.1)) (fun s => n - s.1) (0, none, 0)
  ⟨rfl, rfl, rfl, rfl, rfl, trivial⟩ ⟨by omega, hw, hb3, by simpa using Own.nil_ _ _ _ _ _ _⟩ ?_
 clear hw hb3
 rintro ⟨k, B, c'⟩ w' ⟨hk, hw, hb3, hO⟩
 simp only at hk hO ⊢
 have hlo : b3 + 1 ≤ w'.heap.size := hb3.lt
 by_cases hkn : k < n
 ·have hkl := hl.lt hkn
  have et := List.take_succ_eq_append_getElem hkl
  by_cases hd : g < k
  ·rw [if_pos hd, if_pos hd] at hO
   rw [if_pos hd, decide_eq_true hd]
   repeat' (first | (show CW _ _ _ _ _ _; first | refine CW.seq ?_ | refine CW.region ?_ | refine CW.block ?_ | refine CW.condfr rfl (by with_reducible rfl) ?_ | refine CW.condd_t rfl (by omega) ?_ | refine CW.skip ?_ | (apply CW.quiet1 mixed; (· kernel_rfl); rotate_left; intro w1 hw1; replace hw := Ext.trans hw hw1; replace hb3 := hb3.ext hw1; replace hO := hO.ext hw1; clear hw1; rotate_right)) | (show Post _ _ _ _ _; refine Post.seq ?_) | refine SW.nil ?_ | (show SW _ _ _ _ (⟨_, _, _, _, _, some _⟩ :: _) _ _; refine SW.skip rfl rfl rfl rfl ?_) | refine SW.pure rfl rfl ?_ | (show SW _ _ _ _ (⟨_, Op.indexAddr _ _ _, _, _, _, none⟩ :: _) _ _; refine SW.st (st_indexN rfl rfl (by assumption) (by omega)) rfl ?_) | (show SW _ _ _ _ (⟨_, Op.call ⟨.builtin .len, _, _⟩, _, _, _, none⟩ :: _) _ _; refine SW.st (st_len rfl) rfl ?_) | (show SW _ _ _ _ (⟨_, Op.load _ _, _, _, _, none⟩ :: _) _ _; refine SW.st (st_loadsx hw rfl rfl ((hl.all hkn))) rfl ?_) | exact SW.qnil rfl)
   refine SW.build1 rfl rfl rfl rfl rfl fun b w1 hXX hb hB => ?_
   (replace hw := Ext.trans hw hXX; replace hb3 := hb3.ext hXX; replace hO := hO.ext hXX)
   refine SW.append hO (Blk.sl1 (enc := encBk) hB) (by have := hb3.lt; omega) rfl rfl rfl (hbd _ (by omega)) (by omega) fun A2 c2 w2 hO1 hgr => ?_
   replace hw := ext_grown hw hgr (Nat.le_trans hb3w (Nat.le_succ _)) hO.row_ge
   replace hb3 := hb3.grown hgr (fun e => by have := hO.row_ge b3 e.symm; omega)
   repeat' (first | (show CW _ _ _ _ _ _; refine CW.region ?_) | (show Post _ _ _ _ _; first | refine Post.seq ?_ | refine Post.blk ?_) | refine SW.nil ?_ | refine SW.pure rfl rfl ?_ | (show SW _ _ _ _ (⟨_, Op.binOp _ _ _ _ _, _, _, _, none⟩ :: _) _ _; refine SW.st (st_add rfl rfl (by omega) (by omega)) rfl ?_))
   refine Post.again (k + 1, A2, c2) ⟨rfl, rfl, by simp only; rw [if_pos (show g < k + 1 by omega)]; rfl, by simp only; rw [decide_eq_true (show g < k + 1 by omega)]; rfl, rfl, trivial⟩ (by simp only; omega) ⟨by simp only; omega, hw, hb3, ?_⟩
   simp only
   rw [if_pos (by omega), if_pos (by omega)]
   have e : insAt (l.take (k + 1)) (g) x = insAt (l.take k) (g) x ++ [l[k]] := by
    unfold insAt
    rw [et, List.take_append_of_le_length (by simp; omega), List.drop_append_of_le_length (by simp; omega)]
    simp only [List.append_assoc]
   rw [e]; exact hO1
  ·rw [if_neg hd, if_neg hd] at hO
   rw [if_neg hd, decide_eq_false hd]
   by_cases hge : g = k
   ·have hgt : x.At < l[k].At := by subst hge; exact hg1 hkl
    repeat' (first | (show CW _ _ _ _ _ _; first | refine CW.seq ?_ | refine CW.region ?_ | refine CW.block ?_ | refine CW.condd_t rfl (by omega) ?_ | refine CW.skip ?_ | (apply CW.quiet1 mixed; (· kernel_rfl); rotate_left; intro w1 hw1; replace hw := Ext.trans hw hw1; replace hb3 := hb3.ext hw1; replace hO := hO.ext hw1; clear hw1; rotate_right)) | (show Post _ _ _ _ _; refine Post.seq ?_) | refine SW.nil ?_ | (show SW _ _ _ _ (⟨_, _, _, _, _, some _⟩ :: _) _ _; refine SW.want rfl rfl ?_) | refine SW.pure rfl rfl ?_ | (show SW _ _ _ _ (⟨_, Op.fieldAddr _ _ _, _, _, _, none⟩ :: _) _ _; refine SW.st (st_field rfl) rfl ?_) | (show SW _ _ _ _ (⟨_, Op.indexAddr _ _ _, _, _, _, none⟩ :: _) _ _; refine SW.st (st_indexN rfl rfl (by assumption) (by omega)) rfl ?_) | (show SW _ _ _ _ (⟨_, Op.call ⟨.builtin .len, _, _⟩, _, _, _, none⟩ :: _) _ _; refine SW.st (st_len rfl) rfl ?_) | (show SW _ _ _ _ (⟨_, Op.load _ _, _, _, _, none⟩ :: _) _ _; first | refine SW.st (st_loadx hw rfl (hl.fld hkn rfl)) rfl ?_ | refine SW.st (st_load rfl (hb3.cell rfl)) rfl ?_ | refine SW.st (st_loads rfl rfl ((fun _ _ => hb3.cell))) rfl ?_) | exact SW.qnil rfl)
    refine SW.build1 rfl rfl rfl rfl rfl fun b w1 hXX hb hB => ?_
    (replace hw := Ext.trans hw hXX; replace hb3 := hb3.ext hXX; replace hO := hO.ext hXX)
    refine SW.append hO (Blk.sl1 (enc := encBk) hB) (by have := hb3.lt; omega) rfl rfl rfl (hbd _ (by omega)) (by omega) fun A2 c2 w2 hO1 hgr => ?_
    replace hw := ext_grown hw hgr (Nat.le_trans hb3w (Nat.le_succ _)) hO.row_ge
    replace hb3 := hb3.grown hgr (fun e => by have := hO.row_ge b3 e.symm; omega)
    repeat' (first | (show CW _ _ _ _ _ _; refine CW.region ?_) | (show Post _ _ _ _ _; refine Post.seq ?_) | refine SW.nil ?_ | refine SW.pure rfl rfl ?_ | (show SW _ _ _ _ (⟨_, Op.indexAddr _ _ _, _, _, _, none⟩ :: _) _ _; refine SW.st (st_indexN rfl rfl (by assumption) (by omega)) rfl ?_) | (show SW _ _ _ _ (⟨_, Op.load _ _, _, _, _, none⟩ :: _) _ _; refine SW.st (st_loadsx hw rfl rfl ((hl.all hkn))) rfl ?_))
    refine SW.build1 rfl rfl rfl rfl rfl fun b w1 hXX hb hB => ?_
    (replace hw := Ext.trans hw hXX; replace hb3 := hb3.ext hXX; replace hO1 := hO1.ext hXX)
    refine SW.append hO1 (Blk.sl1 (enc := encBk) hB) (by have := hb3.lt; omega) rfl rfl rfl (hbd _ (by omega)) (by omega) fun A3 c3 w3 hO2 hgr => ?_
    replace hw := ext_grown hw hgr (Nat.le_trans hb3w (Nat.le_succ _)) hO1.row_ge
    replace hb3 := hb3.grown hgr (fun e => by have := hO1.row_ge b3 e.symm; omega)
    repeat' (first | (show CW _ _ _ _ _ _; refine CW.region ?_) | (show Post _ _ _ _ _; first | refine Post.seq ?_ | refine Post.blk ?_) | refine SW.nil ?_ | refine SW.pure rfl rfl ?_ | (show SW _ _ _ _ (⟨_, Op.binOp _ _ _ _ _, _, _, _, none⟩ :: _) _ _; refine SW.st (st_add rfl rfl (by omega) (by omega)) rfl ?_))
    refine Post.again (k + 1, A3, c3) ⟨rfl, rfl, by simp only; rw [if_pos (show g < k + 1 by omega)]; rfl, by simp only; rw [decide_eq_true (show g < k + 1 by omega)]; rfl, rfl, trivial⟩ (by simp only; omega) ⟨by simp only; omega, hw, hb3, ?_⟩
    simp only
    rw [if_pos (by omega), if_pos (by omega)]
    have e : insAt (l.take (k + 1)) (g) x = l.take k ++ [x] ++ [l[k]] := by
     unfold insAt
     rw [hge, et, List.take_append_of_le_length (by simp; omega), List.drop_append_of_le_length (by simp; omega), List.take_of_length_le (by simp; omega), List.drop_eq_nil_of_le (by simp; omega)]
     simp
    rw [e]; exact hO2
   ·have hle : l[k].At ≤ x.At := hg2 k (by omega)
    repeat' (first | (show CW _ _ _ _ _ _; first | refine CW.seq ?_ | refine CW.region ?_ | refine CW.block ?_ | refine CW.condd_t rfl (by omega) ?_ | refine CW.condd_f rfl (by omega) ?_ | refine CW.skip ?_ | (apply CW.quiet1 mixed; (· kernel_rfl); rotate_left; intro w1 hw1; replace hw := Ext.trans hw hw1; replace hb3 := hb3.ext hw1; replace hO := hO.ext hw1; clear hw1; rotate_right)) | (show Post _ _ _ _ _; refine Post.seq ?_) | refine SW.nil ?_ | (show SW _ _ _ _ (⟨_, _, _, _, _, some _⟩ :: _) _ _; refine SW.want rfl rfl ?_) | refine SW.pure rfl rfl ?_ | (show SW _ _ _ _ (⟨_, Op.fieldAddr _ _ _, _, _, _, none⟩ :: _) _ _; refine SW.st (st_field rfl) rfl ?_) | (show SW _ _ _ _ (⟨_, Op.indexAddr _ _ _, _, _, _, none⟩ :: _) _ _; refine SW.st (st_indexN rfl rfl (by assumption) (by omega)) rfl ?_) | (show SW _ _ _ _ (⟨_, Op.call ⟨.builtin .len, _, _⟩, _, _, _, none⟩ :: _) _ _; refine SW.st (st_len rfl) rfl ?_) | (show SW _ _ _ _ (⟨_, Op.load _ _, _, _, _, none⟩ :: _) _ _; first | refine SW.st (st_loadsx hw rfl rfl ((hl.all hkn))) rfl ?_ | refine SW.st (st_loadx hw rfl (hl.fld hkn rfl)) rfl ?_ | refine SW.st (st_load rfl (hb3.cell rfl)) rfl ?_) | exact SW.qnil rfl)
    refine SW.build1 rfl rfl rfl rfl rfl fun b w1 hXX hb hB => ?_
    (replace hw := Ext.trans hw hXX; replace hb3 := hb3.ext hXX; replace hO := hO.ext hXX)
    refine SW.append hO (Blk.sl1 (enc := encBk) hB) (by have := hb3.lt; omega) rfl rfl rfl (hbd _ (by omega)) (by omega) fun A2 c2 w2 hO1 hgr => ?_
    replace hw := ext_grown hw hgr (Nat.le_trans hb3w (Nat.le_succ _)) hO.row_ge
    replace hb3 := hb3.grown hgr (fun e => by have := hO.row_ge b3 e.symm; omega)
    repeat' (first | (show CW _ _ _ _ _ _; refine CW.region ?_) | (show Post _ _ _ _ _; first | refine Post.seq ?_ | refine Post.blk ?_) | refine SW.nil ?_ | refine SW.pure rfl rfl ?_ | (show SW _ _ _ _ (⟨_, Op.binOp _ _ _ _ _, _, _, _, none⟩ :: _) _ _; refine SW.st (st_add rfl rfl (by omega) (by omega)) rfl ?_))
    refine Post.again (k + 1, A2, c2) ⟨rfl, rfl, by simp only; rw [if_neg (show ¬ g < k + 1 by omega)]; rfl, by simp only; rw [decide_eq_false (show ¬ g < k + 1 by omega)]; rfl, rfl, trivial⟩ (by simp only; omega) ⟨by simp only; omega, hw, hb3, ?_⟩
    simp only
    rw [if_neg (by omega), if_neg (by omega), et]
    exact hO1
 ·obtain rfl : k = n := by omega
  rw [List.take_of_length_le (by omega)] at hO
  by_cases hd : g < k
  ·rw [if_pos hd, if_pos hd] at hO
   rw [if_pos hd, decide_eq_true hd]
   repeat' (first | (show CW _ _ _ _ _ _; first | refine CW.seq ?_ | refine CW.region ?_ | refine CW.condd_f rfl (by omega) ?_ | refine CW.condf rfl ?_ | refine CW.skip ?_ | refine CW.ret ?_ | refine CW.exit ?_) | (show Post _ _ _ _ _; first | refine Post.seq ?_ | refine Post.seq_exit ?_ | refine Post.hit ?_ | refine Post.again_exit ?_) | refine SW.nil ?_ | refine SW.pure rfl rfl ?_ | (show SW _ _ _ _ (⟨_, Op.call ⟨.builtin .len, _, _⟩, _, _, _, none⟩ :: _) _ _; refine SW.st (st_len rfl) rfl ?_))
   exact Post.ret1 rfl rfl ⟨_, rfl, hw, _, _, rfl, hO.low (by omega)⟩
  ·rw [if_neg hd, if_neg hd] at hO
   rw [if_neg hd, decide_eq_false hd]
   repeat' (first | (show CW _ _ _ _ _ _; first | refine CW.seq ?_ | refine CW.region ?_ | refine CW.condd_f rfl (by omega) ?_ | refine CW.condt rfl ?_ | refine CW.exit ?_) | (show Post _ _ _ _ _; first | refine Post.seq ?_ | refine Post.seq_exit ?_ | refine Post.hit ?_ | refine Post.again_exit ?_) | refine SW.nil ?_ | refine SW.pure rfl rfl ?_ | (show SW _ _ _ _ (⟨_, Op.call ⟨.builtin .len, _, _⟩, _, _, _, none⟩ :: _) _ _; refine SW.st (st_len rfl) rfl ?_) | (show SW _ _ _ _ (⟨_, Op.load _ _, _, _, _, none⟩ :: _) _ _; refine SW.st (st_loads rfl rfl ((fun _ _ => hb3.cell))) rfl ?_))
   refine SW.build1 rfl rfl rfl rfl rfl fun b w1 hXX hb hB => ?_
   (replace hw := Ext.trans hw hXX; replace hb3 := hb3.ext hXX; replace hO := hO.ext hXX)
   refine SW.append hO (Blk.sl1 (enc := encBk) hB) (by have := hb3.lt; omega) rfl rfl rfl (hbd _ (by omega)) (by omega) fun A2 c2 w2 hO1 hgr => ?_
   replace hw := ext_grown hw hgr (Nat.le_trans hb3w (Nat.le_succ _)) hO.row_ge
   repeat' (first | (show CW _ _ _ _ _ _; first | refine CW.seq ?_ | refine CW.region ?_ | refine CW.ret ?_) | (show Post _ _ _ _ _; refine Post.seq ?_) | refine SW.nil ?_ | refine SW.pure rfl rfl ?_)
   refine Post.ret1 rfl rfl ⟨_, rfl, hw, _, _, rfl, ?_⟩
   have e : insAt l (g) x = l ++ [x] := by
    unfold insAt
    rw [List.take_of_length_le (by omega), List.drop_eq_nil_of_le (by omega)]
    simp
   rw [e]
   exact hO1.low (by omega)
theorem overC_ans (a o : Int) (b9 : Nat) (x : Block) (w : World) (h9 : Blk w b9 55 (encBk ⟨a, o, 0⟩)) (ho : 0 ≤ o ∧ o ≤ 4) (ha : 0 ≤ a ∧ a ≤ 256) (hx : 0 ≤ x.At ∧ x.At ≤ 256) (hy : 0 ≤ x.Order ∧ x.Order ≤ 4) :
  Ans Tryd.prog 139 ([.agg (encBk x).toArray] ++ [.pointer (some ⟨b9, 0, none⟩)]) w fun v _ => v = .bool (decide (x.At < a + pw o) && decide (a < x.At + pw x.Order)) := by
 refine ans_of Tryd.func139 rfl Tryd.ntmps139 rfl ?_
 refine CW.seq (CW.region (SW.box rfl rfl fun b2 w1 hw hb2b hb2 => ?_))
 replace h9 := h9.ext hw
 have c1 : ∀ w', Ans Tryd.prog 23 [.agg (encBk ⟨a, o, 0⟩).toArray] w' fun v _ => v = .int .i64 (a + pw o) := fun w' => Zend_ans ⟨a, o, 0⟩ w' ho ha
 have c2 : ∀ w', Ans Tryd.prog 23 [.agg (encBk x).toArray] w' fun v _ => v = .int .i64 (x.At + pw x.Order) := fun w' => Zend_ans x w' hy hx
 by_cases h1 : x.At < a + pw o
 ·repeat' (first | (show CW _ _ _ _ _ _; first | refine CW.seq ?_ | refine CW.ret ?_ | (apply CW.quiet1 mixed; (· kernel_rfl); rotate_left; intro w1 hw1; replace hw := Ext.trans hw hw1; replace hb2 := hb2.ext hw1; replace h9 := h9.ext hw1; clear hw1; rotate_right)) | (show Post _ _ _ _ _; refine Post.seq ?_) | refine SW.nil ?_ | (show SW _ _ _ _ (⟨_, _, _, _, _, some _⟩ :: _) _ _; first | refine SW.want_t rfl rfl (by with_reducible rfl) ?_ | refine SW.splitd_t rfl rfl rfl (by omega) ?_) | refine SW.pure rfl rfl ?_ | (show SW _ _ _ _ (⟨_, Op.fieldAddr _ _ _, _, _, _, none⟩ :: _) _ _; refine SW.st (st_field rfl) rfl ?_) | (show SW _ _ _ _ (⟨_, Op.load _ _, _, _, _, none⟩ :: _) _ _; first | refine SW.st (st_load rfl (hb2.cell rfl)) rfl ?_ | refine SW.st (st_loads rfl rfl ((fun _ _ => hb2.cell))) rfl ?_ | refine SW.st (st_load rfl (h9.cell rfl)) rfl ?_ | refine SW.st (st_loads rfl rfl ((fun _ _ => h9.cell))) rfl ?_) | (show SW _ _ _ _ (⟨_, Op.call ⟨.value (.func _), _, _⟩, _, _, _, none⟩ :: _) _ _; first | refine SW.qcall rfl rfl (fun w1 hw1 => (c1 _)) ?_ | refine SW.qcall rfl rfl (fun w1 hw1 => (c2 _)) ?_) | exact SW.qnil rfl)
  exact Post.ret1 rfl rfl ⟨_, rfl, hw, by simp [h1]⟩
 ·repeat' (first | (show CW _ _ _ _ _ _; first | refine CW.seq ?_ | refine CW.ret ?_ | (apply CW.quiet1 mixed; (· kernel_rfl); rotate_left; intro w1 hw1; replace hw := Ext.trans hw hw1; replace hb2 := hb2.ext hw1; replace h9 := h9.ext hw1; clear hw1; rotate_right)) | (show Post _ _ _ _ _; refine Post.seq ?_) | refine SW.nil ?_ | (show SW _ _ _ _ (⟨_, _, _, _, _, some _⟩ :: _) _ _; first | refine SW.skip_t rfl rfl (by with_reducible rfl) rfl ?_ | refine SW.splitd_f rfl rfl rfl (by omega) ?_) | refine SW.pure rfl rfl ?_ | (show SW _ _ _ _ (⟨_, Op.fieldAddr _ _ _, _, _, _, none⟩ :: _) _ _; refine SW.st (st_field rfl) rfl ?_) | (show SW _ _ _ _ (⟨_, Op.load _ _, _, _, _, none⟩ :: _) _ _; first | refine SW.st (st_load rfl (hb2.cell rfl)) rfl ?_ | refine SW.st (st_loads rfl rfl ((fun _ _ => h9.cell))) rfl ?_) | (show SW _ _ _ _ (⟨_, Op.call ⟨.value (.func _), _, _⟩, _, _, _, none⟩ :: _) _ _; refine SW.qcall rfl rfl (fun w1 hw1 => (c1 _)) ?_) | exact SW.qnil rfl)
  exact Post.ret1 rfl rfl ⟨_, rfl, hw, by simp [h1]⟩
theorem ZoneCopy_ans (r : ZRow) (z : Zone) (w : World) (hr : RdZ w r z) (hn : r.Free.n * 24 ≤ 140737488355328) (hm : r.Types.n * 8 ≤ 140737488355328) :
  Ans Tryd.prog 6 [.agg (encZ r).toArray] w fun v w' => ∃ s, v = .agg (encZ s).toArray ∧ OwnZ w' w.heap.size s z := by
 refine ans_of Tryd.func6 rfl Tryd.ntmps6 rfl ?_
 refine CW.seq (CW.region (SW.box rfl rfl fun b w1 hw hb hB => ?_))
 refine SW.alloc rfl fun b2 w2 hw2 hb2b hb2 => ?_
 have hb2w : w.heap.size ≤ b2 := Nat.le_trans hw.size hb2b
 (replace hw := Ext.trans hw hw2; replace hB := hB.ext hw2)
 repeat' (first | (show CW _ _ _ _ _ _; refine CW.seq ?_) | (show Post _ _ _ _ _; refine Post.seq ?_) | refine SW.nil ?_)
 refine CW.any 10 mixed (rb_tail (by kernel_rfl)) rfl fun w1 hw1 hRB => ?_
 replace hw := Ext.trans hw hw1; replace hB := hB.ext hw1; replace hb2 := hb2.ext hw1; clear hw1
 refine SA.take 0 hRB rfl (by kernel_rfl) (by kernel_rfl) rfl ?_
 repeat ((show SW _ _ _ _ (⟨_, Op.fieldAddr _ _ _, _, _, _, none⟩ :: _) _ _; refine SW.st (st_field rfl) rfl ?_))
 refine SW.tknil ?_
 refine SA.take 1 hRB rfl (by kernel_rfl) (by kernel_rfl) rfl ?_
 repeat ((show SW _ _ _ _ (⟨_, Op.load _ _, _, _, _, none⟩ :: _) _ _; refine SW.st (st_load rfl (hB.cell rfl)) rfl ?_))
 refine SW.tknil ?_
 refine SA.take 2 hRB rfl (by kernel_rfl) (by kernel_rfl) rfl ?_
 repeat ((show SW _ _ _ _ (⟨_, Op.fieldAddr _ _ _, _, _, _, none⟩ :: _) _ _; refine SW.st (st_field rfl) rfl ?_))
 refine SW.tknil ?_
 refine SA.take 3 hRB rfl (by kernel_rfl) (by kernel_rfl) rfl ?_
 repeat ((show SW _ _ _ _ (⟨_, Op.load _ _, _, _, _, none⟩ :: _) _ _; refine SW.st (st_load rfl (hB.cell rfl)) rfl ?_))
 refine SW.tknil ?_
 refine SA.take 4 hRB rfl (by kernel_rfl) (by kernel_rfl) rfl ?_
 repeat ((show SW _ _ _ _ (⟨_, Op.fieldAddr _ _ _, _, _, _, none⟩ :: _) _ _; refine SW.st (st_field rfl) rfl ?_))
 refine SW.tknil ?_
 refine SA.take 5 hRB rfl (by kernel_rfl) (by kernel_rfl) rfl ?_
 repeat ((show SW _ _ _ _ (⟨_, Op.load _ _, _, _, _, none⟩ :: _) _ _; refine SW.st (st_load rfl (hB.cell rfl)) rfl ?_))
 refine SW.tknil ?_
 refine SA.take 7 hRB rfl (by kernel_rfl) (by kernel_rfl) rfl ?_
 repeat ((show SW _ _ _ _ (⟨_, Op.fieldAddr _ _ _, _, _, _, none⟩ :: _) _ _; refine SW.st (st_field rfl) rfl ?_))
 refine SW.tknil ?_
 refine SA.take 8 hRB rfl (by kernel_rfl) (by kernel_rfl) rfl ?_
 repeat ((show SW _ _ _ _ (⟨_, Op.load _ _, _, _, _, none⟩ :: _) _ _; refine SW.st (st_load rfl (hB.cell rfl)) rfl ?_))
 refine SW.tknil ?_
 refine SA.one 6 rfl (by kernel_rfl) rfl ?_
 refine SW.call rfl rfl (blocks_ans _ _ _ _ _ (hr.free.ext hw) hn) fun v w4 hXX hv => ?_
 obtain ⟨X, c4, rfl, hX⟩ := hv
 replace hX := hX.low hw.size
 (replace hw := Ext.trans hw hXX; replace hB := hB.ext hXX; replace hb2 := hb2.ext hXX)
 refine SW.nil (Post.sa hXX ?_)
 refine SA.one 9 rfl (by kernel_rfl) rfl ?_
 refine SW.call rfl rfl (words_ans _ _ _ _ _ (hr.types.ext hw) hm) fun v w4 hXX hv => ?_
 obtain ⟨Y, d4, rfl, hY⟩ := hv
 replace hY := hY.low hw.size
 (replace hw := Ext.trans hw hXX; replace hB := hB.ext hXX; replace hb2 := hb2.ext hXX; replace hX := hX.ext hXX)
 refine SW.nil (Post.sa hXX ?_)
 refine SA.done (by kernel_rfl) ?_
 repeat' ((show SW _ _ _ _ (⟨_, Op.build _ _, _, _, _, none⟩ :: _) _ _; refine SW.st (st_build rfl rfl) rfl ?_))
 refine SW.storeAgg hb2 rfl rfl rfl rfl (one_z ⟨r.From, r.To, ⟨X, r.Free.n, c4⟩, ⟨Y, r.Types.n, d4⟩⟩) fun w7 hR2 hg => ?_
 have hG := hb2.gr hg
 replace hw := hw.own hb2w hg
 (replace hX := hX.grT hG rfl; replace hY := hY.grT hG rfl)
 repeat' (first | (show CW _ _ _ _ _ _; refine CW.ret ?_) | (show Post _ _ _ _ _; first | refine Post.seq ?_ | refine Post.np ?_) | refine SW.nil ?_)
 exact Post.ret1c rfl rfl hR2 rfl ⟨_, rfl, hw, ⟨r.From, r.To, ⟨X, r.Free.n, c4⟩, ⟨Y, r.Types.n, d4⟩⟩, rfl, ⟨hr.from_, hr.to_, hX, hY⟩⟩
end Go.Proofs.YtfommgdbahemfaaDoor
set_option linter.unusedVariables false
namespace Go.Proofs.YtfommgdbahemfaaDoor
theorem backV_8 {z : Zone} {a o : Int} (h : zoneB z = false) : backV z a o = (8, .zero) := by simp [backV, h, Zone.zero]
theorem backV_1 {z : Zone} {a o : Int} (h : zoneB z = true) (hf : ¬ fitsZ z.From z.To a o) : backV z a o = (1, .zero) := by simp [backV, h, hf, Zone.zero]
theorem backV_5 {z : Zone} {a o : Int} (h : zoneB z = true) (hf : fitsZ z.From z.To a o) (ho : overB z.Free a o = true) : backV z a o = (5, .zero) := by simp [backV, h, hf, ho, Zone.zero]
theorem backV_0 {z : Zone} {a o : Int} (h : zoneB z = true) (hf : fitsZ z.From z.To a o) (ho : overB z.Free a o = false) {l : List Block} {a' o' : Int} (hj : joinL 5 z.Free a o = (l, a', o')) {t : Int} (ht : z.Types.getD ((a' - z.From) / 8).toNat 0 = t) :
  backV z a o = (0, ⟨z.From, z.To, insAt l (lbOf l a') ⟨a', o', t⟩, z.Types⟩) := by simp [backV, h, hf, ho, hj, ← ht]
theorem zone_len {z : Zone} (h : ZoneMay z) : z.Free.length ≤ 256 ∧ z.Types.length ≤ 32 := by
 have hu := zone_ups h
 have hok := h.ok
 unfold zoneOk at hok
 have key : ∀ (i : Nat) (hi : i < z.Free.length), (i : Int) ≤ (z.Free[i]).At := by
  intro i
  induction i with
  | zero =>
   intro hi
   have := (h.blk 0 hi).1
   unfold fitsZ at this
   omega
  | succ i ih =>
   intro hi
   have h1 := ih (by omega)
   have h2 := ups_get hu hi (Nat.lt_succ_self i)
   have h3 := (h.blk i (by omega)).1
   have := pw_le h3.1 h3.2.1
   omega
 refine ⟨?_, by have := h.len; omega⟩
 rcases Nat.eq_zero_or_pos z.Free.length with h0 | h0
 ·omega
 ·have h1 := key (z.Free.length - 1) (by omega)
  have h2 := (h.blk (z.Free.length - 1) (by omega)).1
  unfold fitsZ at h2
  omega
end Go.Proofs.YtfommgdbahemfaaDoor
