/-
  Contracts: slices.Contains at int, ram.Follow and its reference; the law RamFollows.
-/
import Derived.Test.YtfdmgflboibdoaaR3
set_option linter.unusedVariables false
namespace Go.Proofs.Ytfdmgflboibdoaa
open Go.RowKit

def encB (b : Bool) : List Value := [.bool b]
instance : Enc encB 1 := ⟨fun _ => rfl, fun _ u hu => by simp [encB] at hu; subst hu; rfl⟩

theorem IndexInt_ans (A : Option Addr) (n c : Nat) (l : List Int) (x : Int) (w : World) (hl : Sl w 1 encI A n l) (hn : n ≤ 9223372036854775807) :
    Ans Try.prog 161 [.slice A n c, .int .i64 x] w fun v _ => ∃ i : Int, v = .int .i64 i ∧ (0 ≤ i ↔ x ∈ l) := by
  refine ans_of Try.func161 rfl Try.ntmps161 rfl ?_
  have hw := Ext.refl w
  have hA := hl.base
  have hll := hl.len
  repeat' (first | (show CW _ _ _ _ _ _; first | refine CW.seq ?_ | refine CW.region ?_ | refine CW.block ?_) | (show Post _ _ _ _ _; refine Post.seq ?_) | refine SW.nil ?_ | refine SW.pure rfl rfl ?_ | (show SW _ _ _ _ (⟨_, Op.call ⟨.builtin .len, _, _⟩, _, _, _, none⟩ :: _) _ _; refine SW.st (st_len rfl) rfl ?_))
  refine CW.loop (fun k : Nat => [(0, .slice A n c), (1, .int .i64 x), (7, .int .i64 (n : Int)), (8, .int .i64 (k : Int))]) (fun k w' => k ≤ n ∧ Ext w w' ∧ ∀ (i : Nat) (h : i < l.length), i < k → l[i] ≠ x)
    (fun k => n - k) 0 ⟨rfl, rfl, rfl, rfl, trivial⟩ ⟨by omega, hw, fun i h hi => by omega⟩ ?_
  clear hw
  rintro k w' ⟨hk, hw, hI⟩
  by_cases hkn : k < n
  · repeat' (first | (show CW _ _ _ _ _ _; first | refine CW.seq ?_ | refine CW.region ?_ | refine CW.block ?_ | refine CW.condd_t rfl (by omega) ?_ | refine CW.condd rfl (fun h => ?_) (fun h => ?_) | refine CW.skip ?_ | refine CW.ret ?_) | (show Post _ _ _ _ _; first | refine Post.seq ?_ | refine Post.seq_ret ?_ | refine Post.blk ?_ | refine Post.blk_ret ?_ | refine Post.again_ret ?_) | refine SW.nil ?_ | refine SW.pure rfl rfl ?_ | (show SW _ _ _ _ (⟨_, Op.binOp _ _ _ _ _, _, _, _, none⟩ :: _) _ _; refine SW.st (st_add rfl rfl (by omega) (by omega)) rfl ?_) | (show SW _ _ _ _ (⟨_, Op.indexAddr _ _ _, _, _, _, none⟩ :: _) _ _; refine SW.st (st_indexN rfl rfl (by assumption) (by omega)) rfl ?_) | (show SW _ _ _ _ (⟨_, Op.load _ _, _, _, _, none⟩ :: _) _ _; refine SW.st (st_loadx hw rfl (hl.one hkn rfl)) rfl ?_))
    · refine Post.ret1 rfl rfl ⟨_, rfl, hw, _, rfl, ?_⟩
      have hx : x ∈ l := by rw [h]; exact List.getElem_mem _
      simp [hx]
    · refine Post.again (k + 1) ⟨rfl, rfl, rfl, rfl, trivial⟩ (by omega) ⟨by omega, hw, fun i h' hi => ?_⟩
      by_cases hik : i = k
      · subst hik
        exact fun e => h e.symm
      · exact hI i h' (by omega)
  · repeat' (first | (show CW _ _ _ _ _ _; first | refine CW.seq ?_ | refine CW.region ?_ | refine CW.condd_f rfl (by omega) ?_ | refine CW.ret ?_ | refine CW.exit ?_) | (show Post _ _ _ _ _; first | refine Post.seq ?_ | refine Post.seq_exit ?_ | refine Post.hit ?_ | refine Post.again_exit ?_) | refine SW.nil ?_ | refine SW.pure rfl rfl ?_)
    refine Post.ret1 rfl rfl ⟨_, rfl, hw, _, rfl, ?_⟩
    have hx : ¬ x ∈ l := fun hm => by
      obtain ⟨i, hi, e⟩ := List.getElem_of_mem hm
      exact hI i hi (by omega) e
    simp [hx]

theorem ContainsInt_ans (A : Option Addr) (n c : Nat) (l : List Int) (x : Int) (w : World) (hl : Sl w 1 encI A n l) (hn : n ≤ 9223372036854775807) :
    Ans Try.prog 119 [.slice A n c, .int .i64 x] w fun v _ => v = .bool (decide (x ∈ l)) := by
  refine ans_of Try.func119 rfl Try.ntmps119 rfl ?_
  have hw := Ext.refl w
  repeat' (first | (show CW _ _ _ _ _ _; first | refine CW.seq ?_ | refine CW.region ?_) | (show Post _ _ _ _ _; refine Post.seq ?_) | refine SW.nil ?_ | refine SW.pure rfl rfl ?_)
  refine SW.call rfl rfl (IndexInt_ans _ _ _ _ _ _ (hl.ext hw) hn) fun v w1 hw1 hv => ?_
  obtain ⟨i, rfl, hi⟩ := hv
  replace hw := Ext.trans hw hw1
  repeat' (first | (show CW _ _ _ _ _ _; refine CW.ret ?_) | (show Post _ _ _ _ _; refine Post.seq ?_) | refine SW.nil ?_ | refine SW.pure rfl rfl ?_)
  refine Post.ret1 rfl rfl ⟨_, rfl, hw, ?_⟩
  congr 1
  rw [decide_eq_decide]
  exact hi

/-- P1.4: a chain from an address on -/
inductive Follows (l : List Int) (most : Int) : Int → List Int → Option (List Int) → Prop where
  | done (out : List Int) : Follows l most (-1) out (some out)
  | bad {x : Int} {out : List Int} (h : x ≠ -1) (hb : most ≤ out.length ∨ ¬ (0 ≤ x ∧ x < l.length) ∨ x ∈ out) : Follows l most x out none
  | step {k : Nat} {out : List Int} {r : Option (List Int)} (h1 : out.length < most) (hk : k < l.length) (h3 : (k : Int) ∉ out) (h : Follows l most l[k] (out ++ [(k : Int)]) r) : Follows l most k out r

theorem Follows.det {l : List Int} {most x : Int} {out : List Int} {r s : Option (List Int)} (h : Follows l most x out r) : Follows l most x out s → r = s := by
  induction h with
  | done out => intro h'; generalize hx : (-1 : Int) = y at h'; cases h' with
    | done => rfl
    | bad h hb => exact absurd hx.symm h
    | step h1 hk h3 h => omega
  | @bad x out h hb => intro h'; cases h' with
    | done => exact absurd rfl h
    | bad => rfl
    | @step k _ _ h1 hk h3 h' => rcases hb with h0 | h0 | h0 <;> first | omega | exact absurd h0 h3
  | @step k out r h1 hk h3 h ih => intro h'; generalize hx : (k : Int) = y at h'; cases h' with
    | done => omega
    | bad h hb => subst hx; rcases hb with h0 | h0 | h0 <;> first | omega | exact absurd h0 h3
    | @step k' _ _ h1' hk' h3' h' =>
      have : k = k' := by omega
      subst this
      exact ih h'

/-- how many places are not yet in a list -/
def unseen (n : Nat) (out : List Int) : Nat := ((List.range n).filter fun i : Nat => decide ((i : Int) ∉ out)).length
theorem unseen_lt {n k : Nat} {out : List Int} (hk : k < n) (h : (k : Int) ∉ out) : unseen n (out ++ [(k : Int)]) < unseen n out := by
  unfold unseen
  have e : ((List.range n).filter fun i : Nat => decide ((i : Int) ∉ out ++ [(k : Int)])) = ((List.range n).filter fun i : Nat => decide ((i : Int) ∉ out)).filter fun i : Nat => decide (i ≠ k) := by
    rw [List.filter_filter]
    apply List.filter_congr
    intro i _
    rw [← Bool.decide_and, decide_eq_decide]
    simp only [List.mem_append, List.mem_singleton, not_or]
    constructor
    · rintro ⟨h1, h2⟩; exact ⟨fun e => h2 (by rw [e]), h1⟩
    · rintro ⟨h1, h2⟩; exact ⟨h2, fun e => h1 (by omega)⟩
  rw [e]
  refine List.length_filter_lt_length_iff_exists.2 ⟨k, ?_, by simp⟩
  simp [hk, h]
end Go.Proofs.Ytfdmgflboibdoaa
