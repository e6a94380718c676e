/-
  Contracts: lists of structs of integers, copied and held against each other.
-/
import Derived.Test.YtfommgdbahemfaaDoorR1
import Derived.Test.YtfommgdbahemfaaDoorR3
import Derived.Test.YtfommgdbahemfaaDoorR7
set_option linter.unusedVariables false
namespace Go.Proofs.YtfommgdbahemfaaDoor
open Go.RowKit

def encBk (b : Block) : List Value := [.int .i64 b.At, .int .i64 b.Order, .int .i64 b.Ty]
instance : Enc encBk 3 := ⟨fun _ => rfl, fun r u hu => by simp [encBk] at hu; rcases hu with rfl | rfl | rfl <;> rfl⟩
def encSb (b : Slab) : List Value := [.int .i64 b.At, .int .i64 b.Free, .int .i64 b.First]
instance : Enc encSb 3 := ⟨fun _ => rfl, fun r u hu => by simp [encSb] at hu; rcases hu with rfl | rfl | rfl <;> rfl⟩
def Region.nums (r : Region) : List Int := [r.From, r.Size]
def Block.nums (r : Block) : List Int := [r.At, r.Order, r.Ty]
theorem Region.nums_inj {r s : Region} : r.nums = s.nums ↔ r = s := by cases r; cases s; simp [Region.nums]
theorem Block.nums_inj {r s : Block} : r.nums = s.nums ↔ r = s := by cases r; cases s; simp [Block.nums]

theorem own_lo {α : Type} {w : World} {lo : Nat} {e : TypeId} {sz : Nat} {enc : α → List Value} {A : Option Addr} {n c : Nat} {l : List α} (h : Own w lo e sz enc A n c l) {b : Nat} (hb : b ≤ lo) : Own w b e sz enc A n c l := h.low hb


theorem CloneBlock_ans (A : Option Addr) (n c : Nat) (l : List Block) (w : World) (hl : Sl w 3 encBk A n l) (hn : n * 24 ≤ 140737488355328) : Ans Tryd.prog 56 [.slice A n c] w (Copied w 55 3 encBk n l) := by
  refine ans_of Tryd.func56 rfl Tryd.ntmps56 rfl ?_
  have hw := Ext.refl w
  repeat' (first | (show CW _ _ _ _ _ _; first | refine CW.seq ?_ | refine CW.region ?_) | (show Post _ _ _ _ _; refine Post.seq ?_) | refine SW.nil ?_ | refine SW.pure rfl rfl ?_)
  refine SW.st (st_eqnil rfl rfl) rfl ?_
  repeat' (first | (show CW _ _ _ _ _ _; first | refine CW.seq ?_ | refine CW.region ?_ | refine CW.cond rfl (fun h => ?_) (fun h => ?_) | refine CW.skip ?_ | refine CW.ret ?_) | (show Post _ _ _ _ _; first | refine Post.seq ?_ | refine Post.seq_ret ?_) | refine SW.nil ?_ | refine SW.pure rfl rfl ?_)
  · have hn0 : n = 0 := by
      rcases Nat.eq_zero_or_pos n with h0 | h0
      · exact h0
      · have := hl.base h0; simp_all
    subst hn0
    have : l = [] := List.eq_nil_of_length_eq_zero hl.len
    subst this
    exact Post.ret1 rfl rfl ⟨_, rfl, hw, none, 0, rfl, Own.nil_ _ _ _ _ _ _⟩
  · refine SW.build0 rfl fun b w1 hw1 hb => ?_
    replace hw := Ext.trans hw hw1
    repeat' (refine SW.pure rfl rfl ?_)
    refine SW.appendR (Nat.zero_add n) (List.nil_append l) (Own.nil_ w1 w.heap.size _ _ encBk (some ⟨b, 0, none⟩)) (hl.ext hw) hw.size rfl rfl rfl (by omega) (by omega) fun A2 c2 w2 hO hg => ?_
    replace hw := ext_grown hw hg (Nat.le_refl _) (by simp [ownB])
    repeat' (first | (show CW _ _ _ _ _ _; refine CW.ret ?_) | (show Post _ _ _ _ _; refine Post.seq ?_) | refine SW.nil ?_ | refine SW.pure rfl rfl ?_)
    exact Post.ret1 rfl rfl ⟨_, rfl, hw, A2, c2, rfl, hO⟩


theorem blocks_ans (A : Option Addr) (n c : Nat) (l : List Block) (w : World) (hl : Sl w 3 encBk A n l) (hn : n * 24 ≤ 140737488355328) : Ans Tryd.prog 16 [.slice A n c] w (Copied w 55 3 encBk n l) := by
  refine ans_of Tryd.func16 rfl Tryd.ntmps16 rfl ?_
  have hw := Ext.refl w
  have hA := hl.base
  repeat' (first | (show CW _ _ _ _ _ _; first | refine CW.seq ?_ | refine CW.region ?_ | refine CW.block ?_) | (show Post _ _ _ _ _; refine Post.seq ?_) | refine SW.nil ?_ | refine SW.pure rfl rfl ?_)
  refine CW.loop (fun s : Nat × Option Addr × Nat => [(0, .slice A n c), (3, .slice s.2.1 s.1 s.2.2), (4, .int .i64 (s.1 : Int))])
    (fun s w' => s.1 ≤ n ∧ Ext w w' ∧ Own w' w.heap.size 55 3 encBk s.2.1 s.1 s.2.2 (l.take s.1)) (fun s => n - s.1) (0, none, 0) ⟨rfl, rfl, rfl, trivial⟩ ⟨by omega, hw, by simpa using Own.nil_ _ _ _ _ _ _⟩ ?_
  clear hw
  rintro ⟨k, A1, c1⟩ w' ⟨hk, hw, hO⟩
  simp only at hk hO ⊢
  by_cases hkn : k < n
  · repeat' (first | (show CW _ _ _ _ _ _; first | refine CW.seq ?_ | refine CW.region ?_ | refine CW.block ?_ | refine CW.condd_t rfl (by omega) ?_ | refine CW.skip ?_) | (show Post _ _ _ _ _; refine Post.seq ?_) | refine SW.nil ?_ | refine SW.pure rfl rfl ?_ | (show SW _ _ _ _ (⟨_, Op.indexAddr _ _ _, _, _, _, none⟩ :: _) _ _; refine SW.st (st_indexN rfl rfl (by assumption) (by omega)) rfl ?_) | (show SW _ _ _ _ (⟨_, Op.call ⟨.builtin .len, _, _⟩, _, _, _, none⟩ :: _) _ _; refine SW.st (st_len rfl) rfl ?_) | (show SW _ _ _ _ (⟨_, Op.load _ _, _, _, _, none⟩ :: _) _ _; refine SW.st (st_loadsx hw rfl rfl ((hl.all hkn))) rfl ?_))
    refine SW.build1 rfl rfl rfl rfl rfl fun b w1 hw1 hb hB => ?_
    replace hw := Ext.trans hw hw1
    replace hO := hO.ext hw1
    refine SW.append hO (Blk.sl1 (enc := encBk) hB) hw.size rfl rfl rfl (by omega) (by omega) fun A2 c2 w2 hO1 hg => ?_
    replace hw := ext_grown hw hg (Nat.le_refl _) hO.row_ge
    repeat' (first | (show CW _ _ _ _ _ _; refine CW.region ?_) | (show Post _ _ _ _ _; first | refine Post.seq ?_ | refine Post.blk ?_) | refine SW.nil ?_ | refine SW.pure rfl rfl ?_ | (show SW _ _ _ _ (⟨_, Op.binOp _ _ _ _ _, _, _, _, none⟩ :: _) _ _; refine SW.st (st_add rfl rfl (by omega) (by omega)) rfl ?_))
    refine Post.again (k + 1, A2, c2) ⟨rfl, rfl, rfl, trivial⟩ (by simp only; omega) ⟨by simp only; omega, hw, ?_⟩
    rw [List.take_succ_eq_append_getElem (hl.lt hkn)]
    exact hO1
  · repeat' (first | (show CW _ _ _ _ _ _; first | refine CW.seq ?_ | refine CW.region ?_ | refine CW.condd_f rfl (by omega) ?_ | refine CW.ret ?_ | refine CW.exit ?_) | (show Post _ _ _ _ _; first | refine Post.seq ?_ | refine Post.seq_exit ?_ | refine Post.hit ?_ | refine Post.again_exit ?_) | refine SW.nil ?_ | refine SW.pure rfl rfl ?_ | (show SW _ _ _ _ (⟨_, Op.call ⟨.builtin .len, _, _⟩, _, _, _, none⟩ :: _) _ _; refine SW.st (st_len rfl) rfl ?_))
    obtain rfl : k = n := by omega
    refine Post.ret1 rfl rfl ⟨_, rfl, hw, A1, c1, rfl, ?_⟩
    rwa [List.take_of_length_le (by have := hl.len; omega)] at hO


theorem sameBlocks_ans (A B : Option Addr) (n m c d : Nat) (xs ys : List Block) (w : World) (hx : Sl w 3 encBk A n xs) (hy : Sl w 3 encBk B m ys) (hn : n ≤ 2305843009213693952) :
    Ans Tryd.prog 33 [.slice A n c, .slice B m d] w fun v _ => v = .bool (decide (xs = ys)) := by
  refine ans_of Tryd.func33 rfl Tryd.ntmps33 rfl ?_
  have hl := hx.len
  have hl' := hy.len
  have hA := hx.base
  have hB := hy.base
  have hw := Ext.refl w
  repeat' (first | (show CW _ _ _ _ _ _; first | refine CW.seq ?_ | refine CW.region ?_ | refine CW.block ?_ | refine CW.condn rfl (fun h => ?_) (fun h => ?_) | refine CW.skip ?_ | refine CW.ret ?_) | (show Post _ _ _ _ _; first | refine Post.seq ?_ | refine Post.seq_ret ?_) | refine SW.nil ?_ | refine SW.pure rfl rfl ?_ | (show SW _ _ _ _ (⟨_, Op.call ⟨.builtin .len, _, _⟩, _, _, _, none⟩ :: _) _ _; refine SW.st (st_len rfl) rfl ?_))
  · refine Post.ret1 rfl rfl ⟨_, rfl, hw, ?_⟩
    have : xs ≠ ys := fun e => by subst e; omega
    simp [this]
  · have hnm : n = m := by omega
    refine CW.loop (fun k : Nat => [(0, .slice A n c), (1, .slice B m d), (5, .int .i64 (k : Int))])
      (fun k w' => k ≤ n ∧ Ext w w' ∧ ∀ j (h1 : j < xs.length) (h2 : j < ys.length), j < k → xs[j] = ys[j]) (fun k => n - k) 0 ⟨rfl, rfl, rfl, trivial⟩ ⟨by omega, hw, fun j _ _ h => by omega⟩ ?_
    clear hw
    rintro k w' ⟨hk, hw, heq⟩
    by_cases hkn : k < n
    · repeat' (first | (show CW _ _ _ _ _ _; first | refine CW.seq ?_ | refine CW.region ?_ | refine CW.block ?_ | refine CW.condd_t rfl (by omega) ?_ | refine CW.condn rfl (fun h => ?_) (fun h => ?_) | refine CW.skip ?_ | refine CW.ret ?_ | (apply CW.quiet1 mixed; (· kernel_rfl); rotate_left; intro w1 hw1; replace hw := Ext.trans hw hw1; clear hw1; rotate_right)) | (show Post _ _ _ _ _; first | refine Post.seq ?_ | refine Post.seq_ret ?_ | refine Post.blk ?_ | refine Post.blk_ret ?_ | refine Post.again_ret ?_) | refine SW.nil ?_ | refine SW.pure rfl rfl ?_ | (show SW _ _ _ _ (⟨_, Op.binOp _ _ _ _ _, _, _, _, none⟩ :: _) _ _; refine SW.st (st_add rfl rfl (by omega) (by omega)) rfl ?_) | (show SW _ _ _ _ (⟨_, Op.indexAddr _ _ _, _, _, _, none⟩ :: _) _ _; refine SW.st (st_indexN rfl rfl (by assumption) (by omega)) rfl ?_) | (show SW _ _ _ _ (⟨_, Op.call ⟨.builtin .len, _, _⟩, _, _, _, none⟩ :: _) _ _; refine SW.st (st_len rfl) rfl ?_) | (show SW _ _ _ _ (⟨_, Op.load _ _, _, _, _, none⟩ :: _) _ _; first | refine SW.st (st_loadsx hw rfl rfl ((hx.all hkn))) rfl ?_ | refine SW.st (st_loadsx hw rfl rfl ((hy.all (hnm ▸ hkn)))) rfl ?_) | (refine SW.st (st_neS (xs[k]'(hx.lt hkn)).nums (ys[k]'(hy.lt (hnm ▸ hkn))).nums rfl rfl rfl rfl) rfl ?_) | exact SW.qnil rfl)
      · refine Post.ret1 rfl rfl ⟨_, rfl, hw, ?_⟩
        have : xs ≠ ys := fun e => by subst e; exact h rfl
        simp [this]
      · refine Post.again (k + 1) ⟨rfl, rfl, rfl, trivial⟩ (by omega) ⟨by omega, hw, fun j h1 h2 hj => ?_⟩
        by_cases hjk : j = k
        · subst hjk; exact Block.nums_inj.1 (by assumption)
        · exact heq j h1 h2 (by omega)
    · repeat' (first | (show CW _ _ _ _ _ _; first | refine CW.seq ?_ | refine CW.region ?_ | refine CW.condd_f rfl (by omega) ?_ | refine CW.ret ?_ | refine CW.exit ?_) | (show Post _ _ _ _ _; first | refine Post.seq ?_ | refine Post.seq_exit ?_ | refine Post.hit ?_ | refine Post.again_exit ?_) | refine SW.nil ?_ | refine SW.pure rfl rfl ?_ | (show SW _ _ _ _ (⟨_, Op.call ⟨.builtin .len, _, _⟩, _, _, _, none⟩ :: _) _ _; refine SW.st (st_len rfl) rfl ?_))
      refine Post.ret1 rfl rfl ⟨_, rfl, hw, ?_⟩
      have : xs = ys := by
        apply List.ext_getElem (by omega)
        intro j h1 h2
        exact heq j h1 h2 (by omega)
      simp [this]

end Go.Proofs.YtfommgdbahemfaaDoor
