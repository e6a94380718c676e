/-
  Contracts: slab.Layout and its reference; the law SlabLayouts.
-/
import Derived.Test.YtfdmgflboibdoaaPackSlabChecks4
import Derived.Test.YtfdmgflboibdoaaPackSlabChecks5
set_option linter.unusedVariables false
namespace Go.Proofs.Ytfdmgflboibdoaa
open Go.RowKit

/-- P5.1 -/
def layoutF (x : Int) : Int × Int × Int := if 1 ≤ x ∧ x ≤ 64 then (if 4 ≤ 16 / x then (0, 16 / x, 0) else if 4 ≤ 32 / x then (1, 32 / x, 0) else (2, 64 / x, 0)) else (0, 0, 1)
def layoutV (x : Int) : Value := .tuple #[.int .i64 (layoutF x).1, .int .i64 (layoutF x).2.1, .int .i64 (layoutF x).2.2]

theorem LayoutOf_ans (x : Int) (w : World) : Ans Try.prog 141 [.int .i64 x] w fun v _ => v = layoutV x := by
  refine ans_of Try.func141 rfl Try.ntmps141 rfl ?_
  have hw := Ext.refl w
  repeat' (first | (show CW _ _ _ _ _ _; first | refine CW.seq ?_ | refine CW.region ?_ | refine CW.condd rfl (fun h => ?_) (fun h => ?_) | refine CW.condn rfl (fun h => ?_) (fun h => ?_) | refine CW.skip ?_ | refine CW.ret ?_ | (apply CW.quiet1 mixed; (· kernel_rfl); rotate_left; intro w1 hw1; replace hw := Ext.trans hw hw1; clear hw1; rotate_right)) | (show Post _ _ _ _ _; first | refine Post.seq ?_ | refine Post.seq_ret ?_) | refine SW.nil ?_ | refine SW.pure rfl rfl ?_ | (show SW _ _ _ _ (⟨_, Op.binOp _ _ _ _ _, _, _, _, none⟩ :: _) _ _; refine SW.st (st_quo rfl rfl (by omega) (by omega) (by omega)) rfl ?_) | (show SW _ _ _ _ (⟨_, Op.call ⟨.value (.func _), _, _⟩, _, _, _, none⟩ :: _) _ _; (refine SW.call rfl rfl (In_ans _ _ _ _) ?_; intro v w1 hw1 hv; subst hv; replace hw := Ext.trans hw hw1; clear hw1)) | exact SW.qnil rfl)
  all_goals refine Post.ret3 rfl rfl rfl rfl ⟨_, rfl, hw, ?_⟩
  all_goals unfold layoutV layoutF
  · rw [if_neg (by omega)]
  · rw [if_pos (by omega), if_pos (by omega)]
  · rw [if_pos (by omega), if_neg (by omega), if_pos (by omega)]
  · rw [if_pos (by omega), if_neg (by omega), if_neg (by omega)]

theorem Layout_ans (x : Int) (w : World) : Ans Try.prog 139 [.int .i64 x] w fun v _ => v = layoutV x := by
  refine ans_of Try.func139 rfl Try.ntmps139 rfl ?_
  have hw := Ext.refl w
  repeat' (first | (show CW _ _ _ _ _ _; first | refine CW.seq ?_ | refine CW.region ?_ | refine CW.block ?_ | refine CW.condtr rfl (by with_reducible rfl) ?_ | refine CW.condd rfl (fun h => ?_) (fun h => ?_) | refine CW.skip ?_ | refine CW.ret ?_) | (show Post _ _ _ _ _; first | refine Post.seq ?_ | refine Post.seq_ret ?_) | refine SW.nil ?_ | (show SW _ _ _ _ (⟨_, _, _, _, _, some _⟩ :: _) _ _; first | refine SW.want_f rfl rfl (by with_reducible rfl) ?_ | refine SW.skip_f rfl rfl (by with_reducible rfl) rfl ?_ | refine SW.splitd rfl rfl rfl (fun h => ?_) (fun h => ?_)) | refine SW.pure rfl rfl ?_)
  · refine Post.ret3 rfl rfl rfl rfl ⟨_, rfl, hw, ?_⟩
    unfold layoutV layoutF
    rw [if_neg (by omega)]
  · refine Post.ret3 rfl rfl rfl rfl ⟨_, rfl, hw, ?_⟩
    unfold layoutV layoutF
    rw [if_neg (by omega)]
  · have hx : 1 ≤ x ∧ x ≤ 64 := by omega
    refine CW.loop (fun k : Nat => [(0, .int .i64 x), (5, .int .i64 (k : Int))]) (fun k w' => k ≤ 2 ∧ Ext w w' ∧ (1 ≤ k → ¬ 4 ≤ 16 / x) ∧ (2 ≤ k → ¬ 4 ≤ 32 / x)) (fun k => 2 - k) 0 ⟨rfl, rfl, trivial⟩ ⟨by omega, hw, by omega, by omega⟩ ?_
    clear hw
    rintro k w' ⟨hk, hw, h1, h2⟩
    obtain rfl | rfl | rfl : k = 0 ∨ k = 1 ∨ k = 2 := by omega
    · repeat' (first | (show CW _ _ _ _ _ _; first | refine CW.seq ?_ | refine CW.region ?_ | refine CW.block ?_) | refine SW.pure rfl rfl ?_)
      refine SW.st (st_shl (r := 16) rfl rfl (by decide) (by decide) (by decide) (by decide) (by decide)) rfl ?_
      repeat' (first | (show CW _ _ _ _ _ _; first | refine CW.seq ?_ | refine CW.region ?_ | refine CW.condtr rfl (by with_reducible rfl) ?_ | refine CW.condd_f rfl (by omega) ?_ | refine CW.skip ?_ | refine CW.ret ?_) | (show Post _ _ _ _ _; first | refine Post.seq ?_ | refine Post.seq_ret ?_ | refine Post.blk ?_ | refine Post.blk_ret ?_ | refine Post.again_ret ?_) | refine SW.nil ?_ | (show SW _ _ _ _ (⟨_, _, _, _, _, some _⟩ :: _) _ _; first | refine SW.want_f rfl rfl (by with_reducible rfl) ?_ | refine SW.skip_f rfl rfl (by with_reducible rfl) rfl ?_ | refine SW.splitd rfl rfl rfl (fun h => ?_) (fun h => ?_)) | refine SW.pure rfl rfl ?_ | (show SW _ _ _ _ (⟨_, Op.binOp _ _ _ _ _, _, _, _, none⟩ :: _) _ _; first | refine SW.st (st_add rfl rfl (by omega) (by omega)) rfl ?_ | refine SW.st (st_quo rfl rfl (by omega) (by omega) (by omega)) rfl ?_))
      · refine Post.ret3 rfl rfl rfl rfl ⟨_, rfl, hw, ?_⟩
        unfold layoutV layoutF
        rw [if_pos (by omega), if_pos (by omega)]
        rfl
      · exact Post.again 1 ⟨rfl, rfl, trivial⟩ (by omega) ⟨by omega, hw, fun _ => by omega, fun h => by omega⟩
    · repeat' (first | (show CW _ _ _ _ _ _; first | refine CW.seq ?_ | refine CW.region ?_ | refine CW.block ?_) | refine SW.pure rfl rfl ?_)
      refine SW.st (st_shl (r := 32) rfl rfl (by decide) (by decide) (by decide) (by decide) (by decide)) rfl ?_
      repeat' (first | (show CW _ _ _ _ _ _; first | refine CW.seq ?_ | refine CW.region ?_ | refine CW.condtr rfl (by with_reducible rfl) ?_ | refine CW.condd_f rfl (by omega) ?_ | refine CW.skip ?_ | refine CW.ret ?_) | (show Post _ _ _ _ _; first | refine Post.seq ?_ | refine Post.seq_ret ?_ | refine Post.blk ?_ | refine Post.blk_ret ?_ | refine Post.again_ret ?_) | refine SW.nil ?_ | (show SW _ _ _ _ (⟨_, _, _, _, _, some _⟩ :: _) _ _; first | refine SW.want_f rfl rfl (by with_reducible rfl) ?_ | refine SW.skip_f rfl rfl (by with_reducible rfl) rfl ?_ | refine SW.splitd rfl rfl rfl (fun h => ?_) (fun h => ?_)) | refine SW.pure rfl rfl ?_ | (show SW _ _ _ _ (⟨_, Op.binOp _ _ _ _ _, _, _, _, none⟩ :: _) _ _; first | refine SW.st (st_add rfl rfl (by omega) (by omega)) rfl ?_ | refine SW.st (st_quo rfl rfl (by omega) (by omega) (by omega)) rfl ?_))
      · refine Post.ret3 rfl rfl rfl rfl ⟨_, rfl, hw, ?_⟩
        have := h1 (by omega)
        unfold layoutV layoutF
        rw [if_pos (by omega), if_neg (by omega), if_pos (by omega)]
        rfl
      · exact Post.again 2 ⟨rfl, rfl, trivial⟩ (by omega) ⟨by omega, hw, fun _ => h1 (by omega), fun _ => by omega⟩
    · repeat' (first | (show CW _ _ _ _ _ _; first | refine CW.seq ?_ | refine CW.region ?_ | refine CW.block ?_) | refine SW.pure rfl rfl ?_)
      refine SW.st (st_shl (r := 64) rfl rfl (by decide) (by decide) (by decide) (by decide) (by decide)) rfl ?_
      have h1' := h1 (by omega)
      have h2' := h2 (by omega)
      repeat' (first | (show CW _ _ _ _ _ _; first | refine CW.seq ?_ | refine CW.region ?_ | refine CW.condtr rfl (by with_reducible rfl) ?_ | refine CW.condd_t rfl (by omega) ?_ | refine CW.ret ?_) | (show Post _ _ _ _ _; first | refine Post.seq ?_ | refine Post.seq_ret ?_ | refine Post.blk_ret ?_ | refine Post.again_ret ?_) | refine SW.nil ?_ | (show SW _ _ _ _ (⟨_, _, _, _, _, some _⟩ :: _) _ _; first | refine SW.want_f rfl rfl (by with_reducible rfl) ?_ | refine SW.skip_f rfl rfl (by with_reducible rfl) rfl ?_ | refine SW.splitd rfl rfl rfl (fun h => ?_) (fun h => ?_)) | refine SW.pure rfl rfl ?_ | (show SW _ _ _ _ (⟨_, Op.binOp _ _ _ _ _, _, _, _, none⟩ :: _) _ _; refine SW.st (st_quo rfl rfl (by omega) (by omega) (by omega)) rfl ?_))
      all_goals refine Post.ret3 rfl rfl rfl rfl ⟨_, rfl, hw, ?_⟩
      all_goals unfold layoutV layoutF
      all_goals rw [if_pos (by omega), if_neg (by omega), if_neg (by omega)]
      all_goals rfl

end Go.Proofs.Ytfdmgflboibdoaa

/-
  Contracts: slices.Contains at int, ram.Follow and its reference; the law RamFollows.
-/
set_option linter.unusedVariables false
namespace Go.Proofs.Ytfdmgflboibdoaa
open Go.RowKit

def encB (b : Bool) : List Value := [.bool b]
instance : Enc encB 1 := ⟨fun _ => rfl, fun _ u hu => by simp [encB] at hu; subst hu; rfl⟩

theorem IndexInt_ans (A : Option Addr) (n c : Nat) (l : List Int) (x : Int) (w : World) (hl : Sl w 1 encI A n l) (hn : n ≤ 9223372036854775807) :
    Ans Try.prog 161 [.slice A n c, .int .i64 x] w fun v _ => ∃ i : Int, v = .int .i64 i ∧ (0 ≤ i ↔ x ∈ l) := by
  refine ans_of Try.func161 rfl Try.ntmps161 rfl ?_
  have hw := Ext.refl w
  have hA := hl.base
  have hll := hl.len
  repeat' (first | (show CW _ _ _ _ _ _; first | refine CW.seq ?_ | refine CW.region ?_ | refine CW.block ?_) | (show Post _ _ _ _ _; refine Post.seq ?_) | refine SW.nil ?_ | refine SW.pure rfl rfl ?_ | (show SW _ _ _ _ (⟨_, Op.call ⟨.builtin .len, _, _⟩, _, _, _, none⟩ :: _) _ _; refine SW.st (st_len rfl) rfl ?_))
  refine CW.loop (fun k : Nat => [(0, .slice A n c), (1, .int .i64 x), (7, .int .i64 (n : Int)), (8, .int .i64 (k : Int))]) (fun k w' => k ≤ n ∧ Ext w w' ∧ ∀ (i : Nat) (h : i < l.length), i < k → l[i] ≠ x)
    (fun k => n - k) 0 ⟨rfl, rfl, rfl, rfl, trivial⟩ ⟨by omega, hw, fun i h hi => by omega⟩ ?_
  clear hw
  rintro k w' ⟨hk, hw, hI⟩
  by_cases hkn : k < n
  · repeat' (first | (show CW _ _ _ _ _ _; first | refine CW.seq ?_ | refine CW.region ?_ | refine CW.block ?_ | refine CW.condd_t rfl (by omega) ?_ | refine CW.condd rfl (fun h => ?_) (fun h => ?_) | refine CW.skip ?_ | refine CW.ret ?_) | (show Post _ _ _ _ _; first | refine Post.seq ?_ | refine Post.seq_ret ?_ | refine Post.blk ?_ | refine Post.blk_ret ?_ | refine Post.again_ret ?_) | refine SW.nil ?_ | refine SW.pure rfl rfl ?_ | (show SW _ _ _ _ (⟨_, Op.binOp _ _ _ _ _, _, _, _, none⟩ :: _) _ _; refine SW.st (st_add rfl rfl (by omega) (by omega)) rfl ?_) | (show SW _ _ _ _ (⟨_, Op.indexAddr _ _ _, _, _, _, none⟩ :: _) _ _; refine SW.st (st_indexN rfl rfl (by assumption) (by omega)) rfl ?_) | (show SW _ _ _ _ (⟨_, Op.load _ _, _, _, _, none⟩ :: _) _ _; refine SW.st (st_loadx hw rfl (hl.one hkn rfl)) rfl ?_))
    · refine Post.ret1 rfl rfl ⟨_, rfl, hw, _, rfl, ?_⟩
      have hx : x ∈ l := by rw [h]; exact List.getElem_mem _
      simp [hx]
    · refine Post.again (k + 1) ⟨rfl, rfl, rfl, rfl, trivial⟩ (by omega) ⟨by omega, hw, fun i h' hi => ?_⟩
      by_cases hik : i = k
      · subst hik
        exact fun e => h e.symm
      · exact hI i h' (by omega)
  · repeat' (first | (show CW _ _ _ _ _ _; first | refine CW.seq ?_ | refine CW.region ?_ | refine CW.condd_f rfl (by omega) ?_ | refine CW.ret ?_ | refine CW.exit ?_) | (show Post _ _ _ _ _; first | refine Post.seq ?_ | refine Post.seq_exit ?_ | refine Post.hit ?_ | refine Post.again_exit ?_) | refine SW.nil ?_ | refine SW.pure rfl rfl ?_)
    refine Post.ret1 rfl rfl ⟨_, rfl, hw, _, rfl, ?_⟩
    have hx : ¬ x ∈ l := fun hm => by
      obtain ⟨i, hi, e⟩ := List.getElem_of_mem hm
      exact hI i hi (by omega) e
    simp [hx]

theorem ContainsInt_ans (A : Option Addr) (n c : Nat) (l : List Int) (x : Int) (w : World) (hl : Sl w 1 encI A n l) (hn : n ≤ 9223372036854775807) :
    Ans Try.prog 119 [.slice A n c, .int .i64 x] w fun v _ => v = .bool (decide (x ∈ l)) := by
  refine ans_of Try.func119 rfl Try.ntmps119 rfl ?_
  have hw := Ext.refl w
  repeat' (first | (show CW _ _ _ _ _ _; first | refine CW.seq ?_ | refine CW.region ?_) | (show Post _ _ _ _ _; refine Post.seq ?_) | refine SW.nil ?_ | refine SW.pure rfl rfl ?_)
  refine SW.call rfl rfl (IndexInt_ans _ _ _ _ _ _ (hl.ext hw) hn) fun v w1 hw1 hv => ?_
  obtain ⟨i, rfl, hi⟩ := hv
  replace hw := Ext.trans hw hw1
  repeat' (first | (show CW _ _ _ _ _ _; refine CW.ret ?_) | (show Post _ _ _ _ _; refine Post.seq ?_) | refine SW.nil ?_ | refine SW.pure rfl rfl ?_)
  refine Post.ret1 rfl rfl ⟨_, rfl, hw, ?_⟩
  congr 1
  rw [decide_eq_decide]
  exact hi

/-- P1.4: a chain from an address on -/
inductive Follows (l : List Int) (most : Int) : Int → List Int → Option (List Int) → Prop where
  | done (out : List Int) : Follows l most (-1) out (some out)
  | bad {x : Int} {out : List Int} (h : x ≠ -1) (hb : most ≤ out.length ∨ ¬ (0 ≤ x ∧ x < l.length) ∨ x ∈ out) : Follows l most x out none
  | step {k : Nat} {out : List Int} {r : Option (List Int)} (h1 : out.length < most) (hk : k < l.length) (h3 : (k : Int) ∉ out) (h : Follows l most l[k] (out ++ [(k : Int)]) r) : Follows l most k out r

theorem Follows.det {l : List Int} {most x : Int} {out : List Int} {r s : Option (List Int)} (h : Follows l most x out r) : Follows l most x out s → r = s := by
  induction h with
  | done out => intro h'; generalize hx : (-1 : Int) = y at h'; cases h' with
    | done => rfl
    | bad h hb => exact absurd hx.symm h
    | step h1 hk h3 h => omega
  | @bad x out h hb => intro h'; cases h' with
    | done => exact absurd rfl h
    | bad => rfl
    | @step k _ _ h1 hk h3 h' => rcases hb with h0 | h0 | h0 <;> first | omega | exact absurd h0 h3
  | @step k out r h1 hk h3 h ih => intro h'; generalize hx : (k : Int) = y at h'; cases h' with
    | done => omega
    | bad h hb => subst hx; rcases hb with h0 | h0 | h0 <;> first | omega | exact absurd h0 h3
    | @step k' _ _ h1' hk' h3' h' =>
      have : k = k' := by omega
      subst this
      exact ih h'

/-- how many places are not yet in a list -/
def unseen (n : Nat) (out : List Int) : Nat := ((List.range n).filter fun i : Nat => decide ((i : Int) ∉ out)).length
theorem unseen_lt {n k : Nat} {out : List Int} (hk : k < n) (h : (k : Int) ∉ out) : unseen n (out ++ [(k : Int)]) < unseen n out := by
  unfold unseen
  have e : ((List.range n).filter fun i : Nat => decide ((i : Int) ∉ out ++ [(k : Int)])) = ((List.range n).filter fun i : Nat => decide ((i : Int) ∉ out)).filter fun i : Nat => decide (i ≠ k) := by
    rw [List.filter_filter]
    apply List.filter_congr
    intro i _
    rw [← Bool.decide_and, decide_eq_decide]
    simp only [List.mem_append, List.mem_singleton, not_or]
    constructor
    · rintro ⟨h1, h2⟩; exact ⟨fun e => h2 (by rw [e]), h1⟩
    · rintro ⟨h1, h2⟩; exact ⟨h2, fun e => h1 (by omega)⟩
  rw [e]
  refine List.length_filter_lt_length_iff_exists.2 ⟨k, ?_, by simp⟩
  simp [hk, h]
end Go.Proofs.Ytfdmgflboibdoaa

/-
  Contracts: ram.Follow and its reference; the law RamFollows.
-/
set_option linter.unusedVariables false
namespace Go.Proofs.Ytfdmgflboibdoaa
open Go.RowKit

theorem Own.ne_own {α β : Type} {w : World} {lo lo' : Nat} {e e' : TypeId} {sz sz' : Nat} {enc : α → List Value} {enc' : β → List Value} {A B : Option Addr} {m c k d : Nat} {l : List α} {l' : List β}
    (hO : Own w lo e sz enc A m c l) (hS : Own w lo' e' sz' enc' B k d l') (hne : Nat.beq e e' = false) : ownB A c = none ∨ ownB A c ≠ ownB B d := by
  rcases hO.row with ⟨_, rfl⟩ | ⟨hc, g, cur, rfl, _, h2, _⟩
  · exact .inl (by simp [ownB])
  · right
    rcases hS.row with ⟨_, rfl⟩ | ⟨hd, g', cur', rfl, _, h2', _⟩
    · simp [ownB, Nat.pos_iff_ne_zero.1 hc]
    · simp only [ownB, Nat.pos_iff_ne_zero.1 hc, Nat.pos_iff_ne_zero.1 hd, if_false, Option.map_some, ne_eq, Option.some.injEq]
      rintro rfl
      rw [h2] at h2'
      injection h2' with h2'
      injection h2' with _ h _
      subst h
      simp at hne

/-- what a chain's walk answers -/
def FollowV (lo : Nat) (r : Option (List Int)) (v : Value) (w : World) : Prop := match r with
  | none => v = .tuple #[.slice none 0 0, .int .i64 8]
  | some out => ∃ A c, v = .tuple #[.slice A out.length c, .int .i64 0] ∧ Own w lo 3 1 encI A out.length c out ∧ out.length ≤ 17592186044416

theorem unseen_nil (n : Nat) : unseen n [] ≤ n := Nat.le_trans (List.length_filter_le _ _) (by simp)

theorem Follow_ans (A : Option Addr) (n c : Nat) (l : List Int) (x most : Int) (w : World) (hl : Sl w 1 encI A n l) (hn : n * 8 ≤ 140737488355328) :
    Ans Try.prog 159 [.slice A n c, .int .i64 x, .int .i64 most] w fun v w' => ∃ r, Follows l most x [] r ∧ FollowV w.heap.size r v w' := by
  refine ans_of Try.func159 rfl Try.ntmps159 rfl ?_
  have hw := Ext.refl w
  have hn' : n ≤ 2305843009213693952 := by omega
  have hA := hl.base
  have hll := hl.len
  repeat' (first | (show CW _ _ _ _ _ _; first | refine CW.seq ?_ | refine CW.region ?_ | refine CW.block ?_) | (show Post _ _ _ _ _; refine Post.seq ?_) | refine SW.nil ?_ | refine SW.pure rfl rfl ?_)
  refine CW.loop (fun s : List Int × Int × Option Addr × Nat => [(0, .slice A n c), (1, .int .i64 s.2.1), (2, .int .i64 most), (8, .slice s.2.2.1 s.1.length s.2.2.2)])
    (fun s w' => s.1.length + unseen n s.1 ≤ n ∧ (∀ r, Follows l most s.2.1 s.1 r → Follows l most x [] r) ∧ Ext w w' ∧ Own w' w.heap.size 3 1 encI s.2.2.1 s.1.length s.2.2.2 s.1) (fun s => unseen n s.1) ([], x, none, 0) ⟨rfl, rfl, rfl, rfl, trivial⟩
    ⟨by simpa using unseen_nil n, fun _ h => h, hw, Own.nil_ _ _ _ _ _ _⟩ ?_
  clear hw
  rintro ⟨out, y, A1, c1⟩ w' ⟨hk, hF, hw, hO⟩
  simp only at hk hF hO ⊢
  by_cases hy : y = -1
  · repeat' (first | (show CW _ _ _ _ _ _; first | refine CW.seq ?_ | refine CW.region ?_ | refine CW.condn_f rfl (by omega) ?_ | refine CW.ret ?_ | refine CW.exit ?_) | (show Post _ _ _ _ _; first | refine Post.seq ?_ | refine Post.seq_exit ?_ | refine Post.hit ?_ | refine Post.again_exit ?_) | refine SW.nil ?_ | refine SW.pure rfl rfl ?_)
    refine Post.ret2 rfl rfl rfl ⟨_, rfl, hw, some out, hF _ (by subst hy; exact .done _), A1, c1, rfl, hO, by omega⟩
  · by_cases hm : most ≤ out.length
    · repeat' (first | (show CW _ _ _ _ _ _; first | refine CW.seq ?_ | refine CW.region ?_ | refine CW.block ?_ | refine CW.condtr rfl (by with_reducible rfl) ?_ | refine CW.condn_t rfl (by omega) ?_ | refine CW.skip ?_ | refine CW.ret ?_) | (show Post _ _ _ _ _; first | refine Post.seq ?_ | refine Post.seq_ret ?_ | refine Post.blk_ret ?_ | refine Post.again_ret ?_) | refine SW.nil ?_ | (show SW _ _ _ _ (⟨_, _, _, _, _, some _⟩ :: _) _ _; first | refine SW.skip_f rfl rfl (by with_reducible rfl) rfl ?_ | refine SW.splitd_t rfl rfl rfl (by omega) ?_) | refine SW.pure rfl rfl ?_ | (show SW _ _ _ _ (⟨_, Op.call ⟨.builtin .len, _, _⟩, _, _, _, none⟩ :: _) _ _; refine SW.st (st_len rfl) rfl ?_))
      exact Post.ret2 rfl rfl rfl ⟨_, rfl, hw, none, hF _ (.bad hy (.inl hm)), rfl⟩
    · by_cases hx : 0 ≤ y ∧ y < n
      · obtain ⟨k, rfl⟩ := Int.eq_ofNat_of_zero_le hx.1
        have hkn : k < n := by omega
        by_cases hmem : (k : Int) ∈ out
        · repeat' (first | (show CW _ _ _ _ _ _; first | refine CW.seq ?_ | refine CW.region ?_ | refine CW.block ?_ | refine CW.condn_t rfl (by omega) ?_ | refine CW.skip ?_) | (show Post _ _ _ _ _; refine Post.seq ?_) | refine SW.nil ?_ | (show SW _ _ _ _ (⟨_, _, _, _, _, some _⟩ :: _) _ _; first | refine SW.want_f rfl rfl (by with_reducible rfl) ?_ | refine SW.splitd_f rfl rfl rfl (by omega) ?_ | refine SW.splitn_f rfl rfl rfl (by omega) ?_) | refine SW.pure rfl rfl ?_ | (show SW _ _ _ _ (⟨_, Op.call ⟨.builtin .len, _, _⟩, _, _, _, none⟩ :: _) _ _; refine SW.st (st_len rfl) rfl ?_) | (show SW _ _ _ _ (⟨_, Op.call ⟨.value (.func _), _, _⟩, _, _, _, none⟩ :: _) _ _; (refine SW.call rfl rfl (in_ans _ _ _ _ _ _ hn') ?_; intro v w1 hw1 hv; subst hv; replace hw := Ext.trans hw hw1; replace hO := hO.ext hw1; clear hw1)))
          refine SW.call rfl rfl (ContainsInt_ans _ _ _ _ _ _ hO.sl (by omega)) fun v w1 hw1 hv => ?_
          rw [decide_eq_true hmem] at hv
          subst hv
          replace hw := Ext.trans hw hw1
          repeat' (first | (show CW _ _ _ _ _ _; first | refine CW.seq ?_ | refine CW.region ?_ | refine CW.condtr rfl (by with_reducible rfl) ?_ | refine CW.ret ?_) | (show Post _ _ _ _ _; first | refine Post.seq ?_ | refine Post.seq_ret ?_ | refine Post.blk_ret ?_ | refine Post.again_ret ?_) | refine SW.nil ?_ | refine SW.pure rfl rfl ?_)
          exact Post.ret2 rfl rfl rfl ⟨_, rfl, hw, none, hF _ (.bad hy (.inr (.inr hmem))), rfl⟩
        · have hu := unseen_lt hkn hmem
          repeat' (first | (show CW _ _ _ _ _ _; first | refine CW.seq ?_ | refine CW.region ?_ | refine CW.block ?_ | refine CW.condn_t rfl (by omega) ?_ | refine CW.skip ?_) | (show Post _ _ _ _ _; refine Post.seq ?_) | refine SW.nil ?_ | (show SW _ _ _ _ (⟨_, _, _, _, _, some _⟩ :: _) _ _; first | refine SW.want_f rfl rfl (by with_reducible rfl) ?_ | refine SW.splitd_f rfl rfl rfl (by omega) ?_ | refine SW.splitn_f rfl rfl rfl (by omega) ?_) | refine SW.pure rfl rfl ?_ | (show SW _ _ _ _ (⟨_, Op.call ⟨.builtin .len, _, _⟩, _, _, _, none⟩ :: _) _ _; refine SW.st (st_len rfl) rfl ?_) | (show SW _ _ _ _ (⟨_, Op.call ⟨.value (.func _), _, _⟩, _, _, _, none⟩ :: _) _ _; (refine SW.call rfl rfl (in_ans _ _ _ _ _ _ hn') ?_; intro v w1 hw1 hv; subst hv; replace hw := Ext.trans hw hw1; replace hO := hO.ext hw1; clear hw1)))
          refine SW.call rfl rfl (ContainsInt_ans _ _ _ _ _ _ hO.sl (by omega)) fun v w1 hw1 hv => ?_
          rw [decide_eq_false hmem] at hv
          subst hv
          replace hw := Ext.trans hw hw1
          replace hO := hO.ext hw1
          repeat' (first | (show CW _ _ _ _ _ _; first | refine CW.seq ?_ | refine CW.region ?_ | refine CW.condfr rfl (by with_reducible rfl) ?_ | refine CW.skip ?_) | (show Post _ _ _ _ _; refine Post.seq ?_) | refine SW.nil ?_ | refine SW.pure rfl rfl ?_)
          refine SW.build1 rfl rfl rfl rfl rfl fun b w1 hw1 hb hB => ?_
          replace hw := Ext.trans hw hw1
          replace hO := hO.ext hw1
          refine SW.append hO (Blk.sl1 (enc := encI) hB) hw.size rfl rfl rfl (by omega) (by omega) fun A2 c2 w2 hO1 hg => ?_
          replace hw := ext_grown hw hg (Nat.le_refl _) hO.row_ge
          repeat' (first | (show CW _ _ _ _ _ _; refine CW.region ?_) | (show Post _ _ _ _ _; first | refine Post.seq ?_ | refine Post.blk ?_) | refine SW.nil ?_ | refine SW.pure rfl rfl ?_ | (show SW _ _ _ _ (⟨_, Op.indexAddr _ _ _, _, _, _, none⟩ :: _) _ _; refine SW.st (st_indexN rfl rfl (by assumption) (by omega)) rfl ?_) | (show SW _ _ _ _ (⟨_, Op.load _ _, _, _, _, none⟩ :: _) _ _; refine SW.st (st_loadx hw rfl (hl.one hkn rfl)) rfl ?_))
          refine Post.again (out ++ [(k : Int)], l[k]'(hl.lt hkn), A2, c2) ⟨rfl, rfl, rfl, by simp; rfl, trivial⟩ hu ⟨by simp only [List.length_append, List.length_singleton]; omega, fun r h => hF r (.step (by omega) (hl.lt hkn) hmem h), hw, by simpa using hO1⟩
      · repeat' (first | (show CW _ _ _ _ _ _; first | refine CW.seq ?_ | refine CW.region ?_ | refine CW.block ?_ | refine CW.condtr rfl (by with_reducible rfl) ?_ | refine CW.condn_t rfl (by omega) ?_ | refine CW.skip ?_ | refine CW.ret ?_) | (show Post _ _ _ _ _; first | refine Post.seq ?_ | refine Post.seq_ret ?_ | refine Post.blk_ret ?_ | refine Post.again_ret ?_) | refine SW.nil ?_ | (show SW _ _ _ _ (⟨_, _, _, _, _, some _⟩ :: _) _ _; first | refine SW.want_f rfl rfl (by with_reducible rfl) ?_ | refine SW.skip_f rfl rfl (by with_reducible rfl) rfl ?_ | refine SW.splitd_f rfl rfl rfl (by omega) ?_ | refine SW.splitn_t rfl rfl rfl (by omega) ?_) | refine SW.pure rfl rfl ?_ | (show SW _ _ _ _ (⟨_, Op.call ⟨.builtin .len, _, _⟩, _, _, _, none⟩ :: _) _ _; refine SW.st (st_len rfl) rfl ?_) | (show SW _ _ _ _ (⟨_, Op.call ⟨.value (.func _), _, _⟩, _, _, _, none⟩ :: _) _ _; (refine SW.call rfl rfl (in_ans _ _ _ _ _ _ hn') ?_; intro v w1 hw1 hv; subst hv; replace hw := Ext.trans hw hw1; replace hO := hO.ext hw1; clear hw1)))
        exact Post.ret2 rfl rfl rfl ⟨_, rfl, hw, none, hF _ (.bad hy (.inr (.inl (by omega)))), rfl⟩

def seenL (n : Nat) (out : List Int) : List Bool := (List.range n).map fun i : Nat => decide ((i : Int) ∈ out)
theorem seenL_len (n : Nat) (out : List Int) : (seenL n out).length = n := by simp [seenL]
theorem seenL_nil (n : Nat) : seenL n [] = List.replicate n false := by
  apply List.ext_getElem (by simp [seenL])
  intro i h1 h2
  simp [seenL]
theorem seenL_set {n k : Nat} {out : List Int} : (seenL n out).set k true = seenL n (out ++ [(k : Int)]) := by
  apply List.ext_getElem (by simp [seenL])
  intro i h1 h2
  rw [List.getElem_set]
  by_cases h : k = i
  · subst h; simp [seenL]
  · have : ¬ i = k := fun e => h e.symm
    simp [seenL, h, Int.natCast_inj, this]
theorem seenL_cell {w : World} {B : Option Addr} {n k : Nat} {out : List Int} (h : Sl w 1 encB B n (seenL n out)) (hk : k < n) : w.cell? ((B.getD default).add (k * 1)) = some (.bool (decide ((k : Int) ∈ out))) := by
  have := h.one (u := .bool (decide ((k : Int) ∈ out))) hk (by simp [encB, seenL])
  exact this

theorem FollowOf_ans (A : Option Addr) (n c : Nat) (l : List Int) (x most : Int) (w : World) (hl : Sl w 1 encI A n l) (hn : n * 8 ≤ 140737488355328) :
    Ans Try.prog 162 [.slice A n c, .int .i64 x, .int .i64 most] w fun v w' => ∃ r, Follows l most x [] r ∧ FollowV w.heap.size r v w' := by
  refine ans_of Try.func162 rfl Try.ntmps162 rfl ?_
  have hw := Ext.refl w
  have hn' : n ≤ 2305843009213693952 := by omega
  have hA := hl.base
  have hll := hl.len
  repeat' (first | (show CW _ _ _ _ _ _; first | refine CW.seq ?_ | refine CW.region ?_) | (show Post _ _ _ _ _; refine Post.seq ?_) | refine SW.nil ?_ | refine SW.pure rfl rfl ?_ | (show SW _ _ _ _ (⟨_, Op.call ⟨.builtin .len, _, _⟩, _, _, _, none⟩ :: _) _ _; refine SW.st (st_len rfl) rfl ?_))
  refine SW.make (enc := encB) (k := n) false rfl rfl rfl (by omega) (by omega) rfl fun B d w1 hw1 hS => ?_
  have hlo := hw.size
  replace hw := Ext.trans hw hw1
  rw [← seenL_nil n] at hS
  replace hS := Own.low hS hlo
  repeat' (first | (show CW _ _ _ _ _ _; first | refine CW.seq ?_ | refine CW.region ?_ | refine CW.block ?_) | (show Post _ _ _ _ _; refine Post.seq ?_) | refine SW.nil ?_ | refine SW.pure rfl rfl ?_)
  refine CW.loop (fun s : List Int × Int × Option Addr × Nat => [(0, .slice A n c), (1, .int .i64 s.2.1), (2, .int .i64 most), (8, .slice B n d), (9, .slice s.2.2.1 s.1.length s.2.2.2)])
    (fun s w' => s.1.length + unseen n s.1 ≤ n ∧ (∀ r, Follows l most s.2.1 s.1 r → Follows l most x [] r) ∧ Ext w w' ∧ Own w' w.heap.size 3 1 encI s.2.2.1 s.1.length s.2.2.2 s.1 ∧ Own w' w.heap.size 4 1 encB B n d (seenL n s.1)) (fun s => unseen n s.1) ([], x, none, 0) ⟨rfl, rfl, rfl, rfl, rfl, trivial⟩
    ⟨by simpa using unseen_nil n, fun _ h => h, hw, Own.nil_ _ _ _ _ _ _, hS⟩ ?_
  clear hw hS
  rintro ⟨out, y, A1, c1⟩ w' ⟨hk, hF, hw, hO, hS⟩
  simp only at hk hF hO hS ⊢
  by_cases hy : y = -1
  · repeat' (first | (show CW _ _ _ _ _ _; first | refine CW.seq ?_ | refine CW.region ?_ | refine CW.condn_f rfl (by omega) ?_ | refine CW.ret ?_ | refine CW.exit ?_) | (show Post _ _ _ _ _; first | refine Post.seq ?_ | refine Post.seq_exit ?_ | refine Post.hit ?_ | refine Post.again_exit ?_) | refine SW.nil ?_ | refine SW.pure rfl rfl ?_)
    refine Post.ret2 rfl rfl rfl ⟨_, rfl, hw, some out, hF _ (by subst hy; exact .done _), A1, c1, rfl, hO, by omega⟩
  · by_cases hm : most ≤ out.length
    · repeat' (first | (show CW _ _ _ _ _ _; first | refine CW.seq ?_ | refine CW.region ?_ | refine CW.block ?_ | refine CW.condtr rfl (by with_reducible rfl) ?_ | refine CW.condn_t rfl (by omega) ?_ | refine CW.skip ?_ | refine CW.ret ?_) | (show Post _ _ _ _ _; first | refine Post.seq ?_ | refine Post.seq_ret ?_ | refine Post.blk_ret ?_ | refine Post.again_ret ?_) | refine SW.nil ?_ | (show SW _ _ _ _ (⟨_, _, _, _, _, some _⟩ :: _) _ _; first | refine SW.skip_f rfl rfl (by with_reducible rfl) rfl ?_ | refine SW.splitd_t rfl rfl rfl (by omega) ?_) | refine SW.pure rfl rfl ?_ | (show SW _ _ _ _ (⟨_, Op.call ⟨.builtin .len, _, _⟩, _, _, _, none⟩ :: _) _ _; refine SW.st (st_len rfl) rfl ?_))
      exact Post.ret2 rfl rfl rfl ⟨_, rfl, hw, none, hF _ (.bad hy (.inl hm)), rfl⟩
    · by_cases hx : 0 ≤ y ∧ y < n
      · obtain ⟨k, rfl⟩ := Int.eq_ofNat_of_zero_le hx.1
        have hkn : k < n := by omega
        have hBs := hS.sl.base
        by_cases hmem : (k : Int) ∈ out
        · have hcell := seenL_cell hS.sl hkn
          rw [decide_eq_true hmem] at hcell
          repeat' (first | (show CW _ _ _ _ _ _; first | refine CW.seq ?_ | refine CW.region ?_ | refine CW.block ?_ | refine CW.condd_t rfl (by omega) ?_ | refine CW.condn_t rfl (by omega) ?_ | refine CW.skip ?_ | refine CW.ret ?_) | (show Post _ _ _ _ _; first | refine Post.seq ?_ | refine Post.seq_ret ?_ | refine Post.blk_ret ?_ | refine Post.again_ret ?_) | refine SW.nil ?_ | (show SW _ _ _ _ (⟨_, _, _, _, _, some _⟩ :: _) _ _; first | refine SW.want_f rfl rfl (by with_reducible rfl) ?_ | refine SW.splitd_f rfl rfl rfl (by omega) ?_ | refine SW.splitn_f rfl rfl rfl (by omega) ?_) | refine SW.pure rfl rfl ?_ | (show SW _ _ _ _ (⟨_, Op.indexAddr _ _ _, _, _, _, none⟩ :: _) _ _; refine SW.st (st_indexN rfl rfl (by assumption) (by omega)) rfl ?_) | (show SW _ _ _ _ (⟨_, Op.call ⟨.builtin .len, _, _⟩, _, _, _, none⟩ :: _) _ _; refine SW.st (st_len rfl) rfl ?_) | (show SW _ _ _ _ (⟨_, Op.load _ _, _, _, _, none⟩ :: _) _ _; refine SW.st (st_load rfl (seenL_cell hS.sl hkn)) rfl ?_) | (show SW _ _ _ _ (⟨_, Op.call ⟨.value (.func _), _, _⟩, _, _, _, none⟩ :: _) _ _; (refine SW.call rfl rfl (there_ans _ _ _ _ _ _ hn') ?_; intro v w1 hw1 hv; subst hv; replace hw := Ext.trans hw hw1; replace hO := hO.ext hw1; replace hS := hS.ext hw1; clear hw1)))
          exact Post.ret2 rfl rfl rfl ⟨_, rfl, hw, none, hF _ (.bad hy (.inr (.inr hmem))), rfl⟩
        · have hu := unseen_lt hkn hmem
          repeat' (first | (show CW _ _ _ _ _ _; first | refine CW.seq ?_ | refine CW.region ?_ | refine CW.block ?_ | refine CW.condd_f rfl (by omega) ?_ | refine CW.condn_t rfl (by omega) ?_ | refine CW.skip ?_) | (show Post _ _ _ _ _; refine Post.seq ?_) | refine SW.nil ?_ | (show SW _ _ _ _ (⟨_, _, _, _, _, some _⟩ :: _) _ _; first | refine SW.want_f rfl rfl (by with_reducible rfl) ?_ | refine SW.splitd_f rfl rfl rfl (by omega) ?_ | refine SW.splitn_f rfl rfl rfl (by omega) ?_) | refine SW.pure rfl rfl ?_ | (show SW _ _ _ _ (⟨_, Op.indexAddr _ _ _, _, _, _, none⟩ :: _) _ _; refine SW.st (st_indexN rfl rfl (by assumption) (by omega)) rfl ?_) | (show SW _ _ _ _ (⟨_, Op.call ⟨.builtin .len, _, _⟩, _, _, _, none⟩ :: _) _ _; refine SW.st (st_len rfl) rfl ?_) | (show SW _ _ _ _ (⟨_, Op.load _ _, _, _, _, none⟩ :: _) _ _; refine SW.st (st_load rfl (seenL_cell hS.sl hkn)) rfl ?_) | (show SW _ _ _ _ (⟨_, Op.call ⟨.value (.func _), _, _⟩, _, _, _, none⟩ :: _) _ _; (refine SW.call rfl rfl (there_ans _ _ _ _ _ _ hn') ?_; intro v w1 hw1 hv; subst hv; replace hw := Ext.trans hw hw1; replace hO := hO.ext hw1; replace hS := hS.ext hw1; clear hw1)))
          refine SW.storeO k 0 true hS rfl rfl rfl hkn (by omega) (by rw [add_zero]) rfl fun w2 hS2 hg => ?_
          replace hw := ext_grown hw hg (Nat.le_refl _) hS.row_ge
          replace hO := hO.grown hg (hO.ne_own hS rfl)
          rw [seenL_set] at hS2
          repeat' (first | (show CW _ _ _ _ _ _; first | refine CW.seq ?_ | refine CW.region ?_) | (show Post _ _ _ _ _; refine Post.seq ?_) | refine SW.nil ?_ | refine SW.pure rfl rfl ?_)
          refine SW.build1 rfl rfl rfl rfl rfl fun b w1 hw1 hb hB => ?_
          replace hw := Ext.trans hw hw1
          replace hO := hO.ext hw1
          replace hS2 := hS2.ext hw1
          refine SW.append hO (Blk.sl1 (enc := encI) hB) hw.size rfl rfl rfl (by omega) (by omega) fun A2 c2 w2 hO1 hg => ?_
          replace hw := ext_grown hw hg (Nat.le_refl _) hO.row_ge
          replace hS2 := hS2.grown hg (hS2.ne_own hO rfl)
          repeat' (first | (show CW _ _ _ _ _ _; refine CW.region ?_) | (show Post _ _ _ _ _; first | refine Post.seq ?_ | refine Post.blk ?_) | refine SW.nil ?_ | refine SW.pure rfl rfl ?_ | (show SW _ _ _ _ (⟨_, Op.indexAddr _ _ _, _, _, _, none⟩ :: _) _ _; refine SW.st (st_indexN rfl rfl (by assumption) (by omega)) rfl ?_) | (show SW _ _ _ _ (⟨_, Op.load _ _, _, _, _, none⟩ :: _) _ _; refine SW.st (st_loadx hw rfl (hl.one hkn rfl)) rfl ?_))
          refine Post.again (out ++ [(k : Int)], l[k]'(hl.lt hkn), A2, c2) ⟨rfl, rfl, rfl, rfl, by simp; rfl, trivial⟩ hu ⟨by simp only [List.length_append, List.length_singleton]; omega, fun r h => hF r (.step (by omega) (hl.lt hkn) hmem h), hw, by simpa using hO1, hS2⟩
      · repeat' (first | (show CW _ _ _ _ _ _; first | refine CW.seq ?_ | refine CW.region ?_ | refine CW.block ?_ | refine CW.condtr rfl (by with_reducible rfl) ?_ | refine CW.condn_t rfl (by omega) ?_ | refine CW.skip ?_ | refine CW.ret ?_) | (show Post _ _ _ _ _; first | refine Post.seq ?_ | refine Post.seq_ret ?_ | refine Post.blk_ret ?_ | refine Post.again_ret ?_) | refine SW.nil ?_ | (show SW _ _ _ _ (⟨_, _, _, _, _, some _⟩ :: _) _ _; first | refine SW.want_f rfl rfl (by with_reducible rfl) ?_ | refine SW.skip_f rfl rfl (by with_reducible rfl) rfl ?_ | refine SW.splitd_f rfl rfl rfl (by omega) ?_ | refine SW.splitn_t rfl rfl rfl (by omega) ?_) | refine SW.pure rfl rfl ?_ | (show SW _ _ _ _ (⟨_, Op.call ⟨.builtin .len, _, _⟩, _, _, _, none⟩ :: _) _ _; refine SW.st (st_len rfl) rfl ?_) | (show SW _ _ _ _ (⟨_, Op.call ⟨.value (.func _), _, _⟩, _, _, _, none⟩ :: _) _ _; (refine SW.call rfl rfl (there_ans _ _ _ _ _ _ hn') ?_; intro v w1 hw1 hv; subst hv; replace hw := Ext.trans hw hw1; replace hO := hO.ext hw1; replace hS := hS.ext hw1; clear hw1)))
        exact Post.ret2 rfl rfl rfl ⟨_, rfl, hw, none, hF _ (.bad hy (.inr (.inl (by omega)))), rfl⟩

end Go.Proofs.Ytfdmgflboibdoaa

/-
  Plain law: a block goes back to a zone, and is joined with the one beside it.
-/
set_option linter.unusedVariables false
namespace Go.Proofs.Ytfdmgflboibdoaa

def isB (a o : Int) (b : Block) : Bool := decide (b.At = a) && decide (b.Order = o)
def without (l : List Block) (a o : Int) : List Block := l.filter fun b => !isB a o b
/-- joined as often as can be: the list, the place, the order -/
def joinL : Nat → List Block → Int → Int → List Block × Int × Int
  | 0, l, a, o => (l, a, o)
  | f + 1, l, a, o => if o < 4 then (if l.any (isB (beside a o) o) then joinL f (without l (beside a o) o) (min a (beside a o)) (o + 1) else (l, a, o)) else (l, a, o)
/-- the place of the first one that is not ahead of a -/
def lbOf (l : List Block) (a : Int) : Nat := l.findIdx fun b => decide (a ≤ b.At)
def insAt {α : Type} (l : List α) (i : Nat) (b : α) : List α := l.take i ++ [b] ++ l.drop i
def overB (l : List Block) (a o : Int) : Bool := l.any fun x => decide (x.At < a + pw o) && decide (a < x.At + pw x.Order)

def ups (l : List Block) : Prop := l.Pairwise fun x y => x.At + pw x.Order ≤ y.At
structure JOk (f t : Int) (l : List Block) (a o : Int) : Prop where
  ups : ups l
  blk : ∀ b ∈ l, blkOk f t b
  fit : fitsZ f t a o
  dis : ∀ b ∈ l, b.At + pw b.Order ≤ a ∨ a + pw o ≤ b.At

theorem ups_get {l : List Block} (h : ups l) {i j : Nat} (hj : j < l.length) (hij : i < j) : (l[i]'(by omega)).At + pw (l[i]'(by omega)).Order ≤ l[j].At := by
  unfold ups at h
  rw [List.pairwise_iff_getElem] at h
  exact h i j (by omega) hj hij
theorem zone_ups {z : Zone} (h : ZoneMay z) : ups z.Free := by
  have key : ∀ (d i : Nat) (hj : i + d + 1 < z.Free.length), (z.Free[i]'(by omega)).At + pw (z.Free[i]'(by omega)).Order ≤ z.Free[i + d + 1].At := by
    intro d
    induction d with
    | zero => intro i hj; exact (h.next i hj).1
    | succ d ih =>
      intro i hj
      have h1 := ih i (by omega)
      have h2 := (h.next (i + d + 1) (by omega)).1
      have hb := (h.blk (i + d + 1) (by omega)).1
      have := pw_le hb.1 hb.2.1
      have e : z.Free[i + (d + 1) + 1] = z.Free[i + d + 1 + 1]'(by omega) := rfl
      rw [e]
      omega
  unfold ups
  rw [List.pairwise_iff_getElem]
  intro i j hi hj hij
  have := key (j - i - 1) i (by omega)
  have e : i + (j - i - 1) + 1 = j := by omega
  simp only [e] at this
  exact this
/-- two of one place are one -/
theorem ups_uniq {f t : Int} {l : List Block} (h : ups l) (hb : ∀ b ∈ l, blkOk f t b) {x y : Block} (hx : x ∈ l) (hy : y ∈ l) : x = y ∨ x.At + pw x.Order ≤ y.At ∨ y.At + pw y.Order ≤ x.At := by
  obtain ⟨i, hi, rfl⟩ := List.getElem_of_mem hx
  obtain ⟨j, hj, rfl⟩ := List.getElem_of_mem hy
  rcases Nat.lt_trichotomy i j with h1 | h1 | h1
  · exact .inr (.inl (ups_get h hj h1))
  · subst h1; exact .inl rfl
  · exact .inr (.inr (ups_get h hi h1))
theorem ups_at {f t : Int} {l : List Block} (h : ups l) (hb : ∀ b ∈ l, blkOk f t b) {i j : Nat} (hi : i < l.length) (hj : j < l.length) (e : l[i].At = l[j].At) : i = j := by
  have p1 := hb _ (List.getElem_mem hi)
  have p2 := hb _ (List.getElem_mem hj)
  have q1 := pw_le p1.1.1 p1.1.2.1
  have q2 := pw_le p2.1.1 p2.1.2.1
  rcases Nat.lt_trichotomy i j with h1 | h1 | h1
  · have := ups_get h hj h1; omega
  · exact h1
  · have := ups_get h hi h1; omega

theorem beside_fit {a o : Int} (h : 0 ≤ a) (h0 : 0 ≤ o) (h4 : o < 4) (hm : a % pw o = 0) : (min a (beside a o)) % pw (o + 1) = 0 ∧ (beside a o = a + pw o ∨ beside a o = a - pw o) ∧ (beside a o) % pw o = 0 := by
  rw [pw_succ h0 (by omega)]
  unfold beside
  have hp := pw_cases h0 (show o ≤ 4 by omega)
  generalize pw o = q at *
  rcases hp with ⟨e, rfl⟩ | ⟨e, rfl⟩ | ⟨e, rfl⟩ | ⟨e, rfl⟩ | ⟨e, rfl⟩ <;> split <;> omega

theorem isB_iff {a o : Int} {b : Block} : isB a o b = true ↔ b.At = a ∧ b.Order = o := by simp [isB]
theorem JOk.step {f t : Int} {l : List Block} {a o : Int} (h : JOk f t l a o) (h0 : 0 ≤ f) (ho : o < 4) (hany : l.any (isB (beside a o) o) = true) : JOk f t (without l (beside a o) o) (min a (beside a o)) (o + 1) := by
  obtain ⟨b, hb, hi⟩ := List.any_eq_true.1 hany
  obtain ⟨e1, e2⟩ := isB_iff.1 hi
  obtain ⟨f1, f2, f3, f4, f5⟩ := h.fit
  obtain ⟨g1, g2, g3, g4, g5⟩ := (h.blk b hb).1
  obtain ⟨k1, k2, k3⟩ := beside_fit (by omega) f1 ho f5
  have hp := pw_succ f1 f2
  have hp1 := pw_le f1 f2
  refine ⟨h.ups.sublist List.filter_sublist, fun x hx => h.blk x ((List.mem_filter.1 hx).1), ⟨by omega, by omega, by omega, by omega, k1⟩, fun x hx => ?_⟩
  have hx1 := (List.mem_filter.1 hx).1
  have hx2 : isB (beside a o) o x = false := by
    have := (List.mem_filter.1 hx).2
    simpa using this
  have hd := h.dis x hx1
  have hxp := pw_le (h.blk x hx1).1.1 (h.blk x hx1).1.2.1
  rcases ups_uniq h.ups h.blk hb hx1 with e | e | e
  · subst e; rw [hi] at hx2; cases hx2
  · rw [hp]; rw [e2] at e; omega
  · rw [hp]; omega

theorem joinL_ok {f t : Int} (h0 : 0 ≤ f) : ∀ (k : Nat) {l : List Block} {a o : Int}, JOk f t l a o → JOk f t (joinL k l a o).1 (joinL k l a o).2.1 (joinL k l a o).2.2 ∧ (joinL k l a o).1.length ≤ l.length
  | 0, l, a, o, h => ⟨h, Nat.le_refl _⟩
  | k + 1, l, a, o, h => by
    simp only [joinL]
    split
    · rename_i ho
      split
      · rename_i hany
        have ih := joinL_ok h0 k (h.step h0 ho hany)
        exact ⟨ih.1, Nat.le_trans ih.2 (List.length_filter_le _ _)⟩
      · exact ⟨h, Nat.le_refl _⟩
    · exact ⟨h, Nat.le_refl _⟩

/-- the first one that is not ahead -/
theorem lb_spec {l : List Block} {a : Int} {i : Nat} (hi : i ≤ l.length) (h1 : ∀ (k : Nat) (h : k < l.length), k < i → l[k].At < a) (h2 : ∀ h : i < l.length, a ≤ l[i].At) : lbOf l a = i := by
  unfold lbOf
  by_cases h : i < l.length
  · exact (List.findIdx_eq h).2 ⟨by simpa using h2 h, fun j hj => by simpa using h1 j (by omega) hj⟩
  · have e : i = l.length := by omega
    subst e
    rw [List.findIdx_eq_length]
    intro x hx
    obtain ⟨k, hk, rfl⟩ := List.getElem_of_mem hx
    simpa using h1 k hk hk
theorem lb_le (l : List Block) (a : Int) : lbOf l a ≤ l.length := List.findIdx_le_length
theorem lb_below {l : List Block} {a : Int} {k : Nat} (hk : k < lbOf l a) : (l[k]'(Nat.lt_of_lt_of_le hk (lb_le l a))).At < a := by
  have := List.not_of_lt_findIdx hk
  simpa using this
theorem lb_at {l : List Block} {a : Int} (h : lbOf l a < l.length) : a ≤ (l[lbOf l a]).At := by
  have := List.findIdx_getElem (w := h)
  exact of_decide_eq_true this

/-- the program's way to find the one beside -/
def foundB (l : List Block) (a o : Int) : Bool := if h : lbOf l a < l.length then decide ((l[lbOf l a]).At = a ∧ (l[lbOf l a]).Order = o) else false
theorem found_any {f t : Int} {l : List Block} (hu : ups l) (hb : ∀ b ∈ l, blkOk f t b) (a o : Int) : l.any (isB a o) = foundB l a o := by
  unfold foundB
  by_cases h : lbOf l a < l.length
  · rw [dif_pos h]
    by_cases hh : (l[lbOf l a]).At = a ∧ (l[lbOf l a]).Order = o
    · rw [decide_eq_true hh]
      exact List.any_eq_true.2 ⟨_, List.getElem_mem h, isB_iff.2 hh⟩
    · rw [decide_eq_false hh, List.any_eq_false]
      intro x hx hi
      obtain ⟨e1, e2⟩ := isB_iff.1 hi
      obtain ⟨j, hj, rfl⟩ := List.getElem_of_mem hx
      have h1 := lb_at h
      rcases Nat.lt_trichotomy j (lbOf l a) with hlt | hlt | hlt
      · have := lb_below hlt; omega
      · subst hlt; exact hh ⟨e1, e2⟩
      · have := ups_get hu hj hlt
        have hp := hb _ (List.getElem_mem h)
        have := pw_le hp.1.1 hp.1.2.1
        omega
  · rw [dif_neg h, List.any_eq_false]
    intro x hx hi
    obtain ⟨e1, e2⟩ := isB_iff.1 hi
    obtain ⟨j, hj, rfl⟩ := List.getElem_of_mem hx
    have := lb_below (show j < lbOf l a by omega)
    omega
theorem erase_without {f t : Int} {l : List Block} (hu : ups l) (hb : ∀ b ∈ l, blkOk f t b) {a o : Int} {i : Nat} (hi : i < l.length) (h1 : l[i].At = a) (h2 : l[i].Order = o) : l.eraseIdx i = without l a o := by
  have hne : ∀ (j : Nat) (hj : j < l.length), j ≠ i → isB a o l[j] = false := fun j hj hji => by
    cases hh : isB a o l[j] with
    | false => rfl
    | true =>
      obtain ⟨e1, e2⟩ := isB_iff.1 hh
      exact absurd (ups_at hu hb hj hi (by omega)) hji
  have e : l = l.take i ++ l[i] :: l.drop (i + 1) := by simp
  have hL : ∀ x ∈ l.take i, isB a o x = false := fun x hx => by
    obtain ⟨j, hj, rfl⟩ := List.getElem_of_mem hx
    simp at hj
    rw [List.getElem_take]
    exact hne j (by omega) (by omega)
  have hR : ∀ x ∈ l.drop (i + 1), isB a o x = false := fun x hx => by
    obtain ⟨j, hj, rfl⟩ := List.getElem_of_mem hx
    simp at hj
    rw [List.getElem_drop]
    exact hne _ (by omega) (by omega)
  have hm : isB a o l[i] = true := isB_iff.2 ⟨h1, h2⟩
  unfold without
  rw [List.eraseIdx_eq_take_drop_succ]
  conv => rhs; rw [e]
  rw [List.filter_append, List.filter_cons]
  simp only [hm, Bool.not_true, Bool.false_eq_true, if_false]
  rw [List.filter_eq_self.2 (fun x hx => by simp [hL x hx]), List.filter_eq_self.2 (fun x hx => by simp [hR x hx])]

/-- P3.5 -/
noncomputable def backV (z : Zone) (a o : Int) : Int × Zone :=
  if zoneB z then (if fitsZ z.From z.To a o then (if overB z.Free a o then (5, ⟨0, 0, [], []⟩) else
    (0, ⟨z.From, z.To, insAt (joinL 5 z.Free a o).1 (lbOf (joinL 5 z.Free a o).1 (joinL 5 z.Free a o).2.1) ⟨(joinL 5 z.Free a o).2.1, (joinL 5 z.Free a o).2.2, z.Types.getD (((joinL 5 z.Free a o).2.1 - z.From) / 8).toNat 0⟩, z.Types⟩)) else (1, ⟨0, 0, [], []⟩)) else (8, ⟨0, 0, [], []⟩)
theorem over_dis {f t : Int} {z : Zone} {a o : Int} (hz : ZoneMay z) (hf : fitsZ z.From z.To a o) (h : overB z.Free a o = false) : JOk z.From z.To z.Free a o := by
  refine ⟨zone_ups hz, fun b hb => ?_, hf, fun b hb => ?_⟩
  · obtain ⟨i, hi, rfl⟩ := List.getElem_of_mem hb
    exact hz.blk i hi
  · unfold overB at h
    rw [List.any_eq_false] at h
    have := h b hb
    simp at this
    omega
end Go.Proofs.Ytfdmgflboibdoaa

/-
  Plain law: what a block's way back, and giving pages, answer; their sizes.
-/
set_option linter.unusedVariables false
namespace Go.Proofs.Ytfdmgflboibdoaa

theorem backV_8 {z : Zone} {a o : Int} (h : zoneB z = false) : backV z a o = (8, .zero) := by simp [backV, h, Zone.zero]
theorem backV_1 {z : Zone} {a o : Int} (h : zoneB z = true) (hf : ¬ fitsZ z.From z.To a o) : backV z a o = (1, .zero) := by simp [backV, h, hf, Zone.zero]
theorem backV_5 {z : Zone} {a o : Int} (h : zoneB z = true) (hf : fitsZ z.From z.To a o) (ho : overB z.Free a o = true) : backV z a o = (5, .zero) := by simp [backV, h, hf, ho, Zone.zero]
theorem backV_0 {z : Zone} {a o : Int} (h : zoneB z = true) (hf : fitsZ z.From z.To a o) (ho : overB z.Free a o = false) {l : List Block} {a' o' : Int} (hj : joinL 5 z.Free a o = (l, a', o')) {t : Int} (ht : z.Types.getD ((a' - z.From) / 8).toNat 0 = t) :
    backV z a o = (0, ⟨z.From, z.To, insAt l (lbOf l a') ⟨a', o', t⟩, z.Types⟩) := by simp [backV, h, hf, ho, hj, ← ht]

theorem zone_len {z : Zone} (h : ZoneMay z) : z.Free.length ≤ 256 ∧ z.Types.length ≤ 32 := by
  have hu := zone_ups h
  have hok := h.ok
  unfold zoneOk at hok
  have key : ∀ (i : Nat) (hi : i < z.Free.length), (i : Int) ≤ (z.Free[i]).At := by
    intro i
    induction i with
    | zero =>
      intro hi
      have := (h.blk 0 hi).1
      unfold fitsZ at this
      omega
    | succ i ih =>
      intro hi
      have h1 := ih (by omega)
      have h2 := ups_get hu hi (Nat.lt_succ_self i)
      have h3 := (h.blk i (by omega)).1
      have := pw_le h3.1 h3.2.1
      omega
  refine ⟨?_, by have := h.len; omega⟩
  rcases Nat.eq_zero_or_pos z.Free.length with h0 | h0
  · omega
  · have h1 := key (z.Free.length - 1) (by omega)
    have h2 := (h.blk (z.Free.length - 1) (by omega)).1
    unfold fitsZ at h2
    omega

theorem backV_len (z : Zone) (a o : Int) : (backV z a o).2.Free.length ≤ 257 ∧ (backV z a o).2.Types.length ≤ 32 ∧ ((backV z a o).1 = 0 → (backV z a o).2.From = z.From ∧ (backV z a o).2.To = z.To ∧ (backV z a o).2.Types = z.Types) := by
  cases hq : zoneB z
  · rw [backV_8 hq]; simp [Zone.zero]
  · have hz := zoneB_iff.1 hq
    have hl := zone_len hz
    by_cases hf : fitsZ z.From z.To a o
    · cases ho : overB z.Free a o
      · have hJ := over_dis (f := 0) (t := 0) hz hf ho
        have hj := joinL_ok (by have := hz.ok; unfold zoneOk at this; omega) 5 hJ
        obtain ⟨⟨l, a', o'⟩, hq2⟩ : ∃ u, joinL 5 z.Free a o = u := ⟨_, rfl⟩
        rw [hq2] at hj
        rw [backV_0 hq hf ho hq2 rfl]
        have h3 := hj.2
        simp only [insAt, List.length_append, List.length_take, List.length_drop, List.length_singleton] at h3 ⊢
        exact ⟨by omega, hl.2, fun _ => by simp⟩
      · rw [backV_5 hq hf ho]; simp [Zone.zero]
    · rw [backV_1 hq hf]; simp [Zone.zero]

/-- P3.6 -/
noncomputable def giveL : Nat → Zone → Int → Int × Zone
  | 0, z, _ => (0, z)
  | k + 1, z, p => if (backV z p 0).1 = 0 then giveL k (backV z p 0).2 (p + 1) else ((backV z p 0).1, .zero)
def giveArgs (z : Zone) (f s : Int) : Prop := 0 ≤ s ∧ z.From ≤ f ∧ f ≤ z.To ∧ s ≤ z.To - f
instance (z : Zone) (f s : Int) : Decidable (giveArgs z f s) := inferInstanceAs (Decidable (_ ∧ _))
noncomputable def giveV (z : Zone) (f s : Int) : Int × Zone := if zoneB z then (if giveArgs z f s then giveL s.toNat z f else (1, .zero)) else (8, .zero)
theorem giveV_8 {z : Zone} {f s : Int} (h : zoneB z = false) : giveV z f s = (8, .zero) := by simp [giveV, h]
theorem giveV_1 {z : Zone} {f s : Int} (h : zoneB z = true) (ha : ¬ giveArgs z f s) : giveV z f s = (1, .zero) := by simp [giveV, h, ha]
theorem giveV_0 {z : Zone} {f : Int} {k : Nat} (h : zoneB z = true) (ha : giveArgs z f (k : Int)) : giveV z f (k : Int) = giveL k z f := by simp [giveV, h, ha]
theorem giveL_len : ∀ (k : Nat) (z : Zone) (p : Int), z.Free.length ≤ 257 → z.Types.length ≤ 32 → (giveL k z p).2.Free.length ≤ 257 ∧ (giveL k z p).2.Types.length ≤ 32
  | 0, z, p, h1, h2 => ⟨h1, h2⟩
  | k + 1, z, p, h1, h2 => by
    simp only [giveL]
    have := backV_len z p 0
    split
    · exact giveL_len k _ _ this.1 this.2.1
    · simp [Zone.zero]

theorem giveV_len (z : Zone) (f s : Int) : (giveV z f s).2.Free.length ≤ 257 ∧ (giveV z f s).2.Types.length ≤ 32 := by
  unfold giveV
  split
  · rename_i h
    have := zone_len (zoneB_iff.1 h)
    split
    · exact giveL_len _ _ _ (by omega) (by omega)
    · simp [Zone.zero]
  · simp [Zone.zero]
theorem backV_len2 (z : Zone) (f s : Int) : (backV z f s).2.Free.length ≤ 257 ∧ (backV z f s).2.Types.length ≤ 32 := ⟨(backV_len z f s).1, (backV_len z f s).2.1⟩
end Go.Proofs.Ytfdmgflboibdoaa

/-
  Plain law: regions of pages as the runs of what holds of a page.
-/
set_option linter.unusedVariables false
namespace Go.Proofs.Ytfdmgflboibdoaa

def Region.stop (r : Region) : Int := r.From + r.Size

def inReg (l : List Region) (p : Int) : Bool := l.any fun r => decide (r.From ≤ p) && decide (p < r.From + r.Size)

/-- the last region one page longer -/
def bump : List Region → List Region
  | [] => []
  | [r] => [⟨r.From, r.Size + 1⟩]
  | x :: y :: l => x :: bump (y :: l)

/-- the runs of p below k -/
def runs (p : Nat → Bool) : Nat → List Region
  | 0 => []
  | i + 1 => if p i then (if 0 < i ∧ p (i - 1) = true then bump (runs p i) else runs p i ++ [⟨(i : Int), 1⟩]) else runs p i

theorem bump_concat : ∀ (l : List Region) (r : Region), bump (l ++ [r]) = l ++ [⟨r.From, r.Size + 1⟩]
  | [], _ => rfl
  | [x], _ => rfl
  | x :: y :: l, r => by
    have ih := bump_concat (y :: l) r
    simp only [List.cons_append, bump] at ih ⊢
    rw [ih]

theorem runs_congr {p q : Nat → Bool} : ∀ (k : Nat), (∀ i, i < k → p i = q i) → runs p k = runs q k
  | 0, _ => rfl
  | k + 1, h => by
    have h1 := h k (by omega)
    have ih := runs_congr k (fun i hi => h i (by omega))
    simp only [runs, h1, ih]
    by_cases hk : 0 < k
    · rw [h (k - 1) (by omega)]
    · simp [hk]

/-- what is known of the runs below k -/
structure RunsOk (p : Nat → Bool) (k : Nat) (l : List Region) : Prop where
  rng : ∀ r ∈ l, 0 ≤ r.From ∧ 1 ≤ r.Size ∧ r.From + r.Size ≤ (k : Int)
  len : l.length ≤ k
  last : 0 < k → p (k - 1) = true → ∃ init r, l = init ++ [r] ∧ r.From + r.Size = (k : Int)
  below : (0 < k → p (k - 1) = false) → ∀ r ∈ l, r.From + r.Size < (k : Int)
  sep : l.Pairwise fun a b => a.From + a.Size < b.From
  iff : ∀ i : Nat, i < k → (p i = true ↔ ∃ r ∈ l, r.From ≤ (i : Int) ∧ (i : Int) < r.From + r.Size)

theorem runs_ok (p : Nat → Bool) : ∀ k, RunsOk p k (runs p k)
  | 0 => ⟨by simp [runs], by simp [runs], by simp, by simp [runs], by simp [runs], by simp⟩
  | k + 1 => by
    have ih := runs_ok p k
    simp only [runs]
    by_cases hp : p k = true
    · rw [if_pos hp]
      by_cases hq : 0 < k ∧ p (k - 1) = true
      · rw [if_pos hq]
        obtain ⟨init, r, hl, hr⟩ := ih.last hq.1 hq.2
        rw [hl, bump_concat]
        have hrng := ih.rng
        have hlen := ih.len
        have hsep := ih.sep
        have hiff := ih.iff
        rw [hl] at hrng hlen hsep hiff
        have hr0 := hrng r (by simp)
        refine ⟨?_, ?_, ?_, ?_, ?_, ?_⟩
        · intro x hx
          simp only [List.mem_append, List.mem_singleton] at hx
          rcases hx with hx | rfl
          · have := hrng x (by simp [hx]); omega
          · simp only; omega
        · simp only [List.length_append, List.length_singleton] at hlen ⊢; omega
        · intro _ _
          exact ⟨init, _, rfl, by simp only; omega⟩
        · intro h
          simp at h
          rw [h] at hp; cases hp
        · rw [List.pairwise_append] at hsep ⊢
          refine ⟨hsep.1, by simp, fun a ha b hb => ?_⟩
          simp only [List.mem_singleton] at hb
          subst hb
          exact hsep.2.2 a ha r (by simp)
        · intro i hi
          by_cases hik : i = k
          · subst hik
            simp only [hp, true_iff]
            exact ⟨⟨r.From, r.Size + 1⟩, by simp, by simp only; omega, by simp only; omega⟩
          · rw [hiff i (by omega)]
            constructor
            · rintro ⟨x, hx, h1, h2⟩
              simp only [List.mem_append, List.mem_singleton] at hx
              rcases hx with hx | rfl
              · exact ⟨x, by simp [hx], h1, h2⟩
              · exact ⟨⟨x.From, x.Size + 1⟩, by simp, h1, by simp only; omega⟩
            · rintro ⟨x, hx, h1, h2⟩
              simp only [List.mem_append, List.mem_singleton] at hx
              rcases hx with hx | rfl
              · exact ⟨x, by simp [hx], h1, h2⟩
              · simp only at h1 h2
                exact ⟨r, by simp, h1, by omega⟩
      · rw [if_neg hq]
        have hb : ∀ r ∈ runs p k, r.From + r.Size < (k : Int) := ih.below (fun h0 => by
          cases hh : p (k - 1) with
          | false => rfl
          | true => exact absurd ⟨h0, hh⟩ hq)
        refine ⟨?_, ?_, ?_, ?_, ?_, ?_⟩
        · intro x hx
          simp only [List.mem_append, List.mem_singleton] at hx
          rcases hx with hx | rfl
          · have := ih.rng x hx; omega
          · simp only; omega
        · have := ih.len
          simp only [List.length_append, List.length_singleton]; omega
        · intro _ _
          exact ⟨runs p k, _, rfl, by simp only; omega⟩
        · intro h
          simp at h
          rw [h] at hp; cases hp
        · rw [List.pairwise_append]
          refine ⟨ih.sep, by simp, fun a ha b hb' => ?_⟩
          simp only [List.mem_singleton] at hb'
          subst hb'
          exact hb a ha
        · intro i hi
          by_cases hik : i = k
          · subst hik
            simp only [hp, true_iff]
            exact ⟨⟨(i : Int), 1⟩, by simp, by simp only; omega, by simp only; omega⟩
          · rw [ih.iff i (by omega)]
            constructor
            · rintro ⟨x, hx, h1, h2⟩
              exact ⟨x, by simp [hx], h1, h2⟩
            · rintro ⟨x, hx, h1, h2⟩
              simp only [List.mem_append, List.mem_singleton] at hx
              rcases hx with hx | rfl
              · exact ⟨x, hx, h1, h2⟩
              · simp only at h1 h2
                omega
    · rw [if_neg hp]
      have hp' : p k = false := by simpa using hp
      refine ⟨?_, ?_, ?_, ?_, ih.sep, ?_⟩
      · intro x hx
        have := ih.rng x hx; omega
      · have := ih.len; omega
      · intro _ h
        simp at h
        rw [h] at hp'; cases hp'
      · intro _ x hx
        have := ih.rng x hx; omega
      · intro i hi
        by_cases hik : i = k
        · subst hik
          simp only [hp', Bool.false_eq_true, false_iff]
          rintro ⟨x, hx, h1, h2⟩
          have := ih.rng x hx; omega
        · exact ih.iff i (by omega)

/-- a marks' list -/
def marksOf (p : Nat → Bool) (k : Nat) : List Bool := (List.range k).map p
theorem marksOf_len (p : Nat → Bool) (k : Nat) : (marksOf p k).length = k := by simp [marksOf]
theorem marksOf_get (p : Nat → Bool) (k i : Nat) (h : i < (marksOf p k).length) : (marksOf p k)[i] = p i := by simp [marksOf]
theorem marksOf_set (p : Nat → Bool) (k i : Nat) (b : Bool) : (marksOf p k).set i b = marksOf (fun j => if j = i then b else p j) k := by
  apply List.ext_getElem (by simp [marksOf])
  intro j h1 h2
  rw [List.getElem_set]
  by_cases h : i = j
  · subst h; simp [marksOf]
  · have : ¬ j = i := fun e => h e.symm
    simp [marksOf, h, this]
theorem marksOf_congr {p q : Nat → Bool} {k : Nat} (h : ∀ i, i < k → p i = q i) : marksOf p k = marksOf q k := by
  apply List.ext_getElem (by simp [marksOf])
  intro j h1 h2
  simp only [marksOf_get]
  exact h j (by simpa [marksOf] using h1)
end Go.Proofs.Ytfdmgflboibdoaa
