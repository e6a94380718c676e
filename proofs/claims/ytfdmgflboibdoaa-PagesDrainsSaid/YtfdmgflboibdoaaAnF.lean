/-
  A region that draws its order and ends in a store: all that the store waits for is as before; what it does not wait for is steady in every world. No program in sight.
-/
import Derived.Test.YtfdmgflboibdoaaAny
set_option linter.unusedVariables false
namespace Go.Proofs.Ytfdmgflboibdoaa
open Go.RowKit

/-- in whatever order; S holds behind each operation but the last one, 'fin' -/
def wpHf (P : Program) (ops : Array Oper) (Q : Exit → Act → World → Prop) (fin : Nat) : (World → Prop) → Nat → Array Bool → Act → World → Prop
  | _, 0, listed, a, w => Region.ready .any ops listed = [] ∧ Q .normal a w
  | S, f + 1, listed, a, w => Region.ready .any ops listed ≠ [] ∧ ∀ i ∈ Region.ready .any ops listed, wpOp P ops Q i (fun a' w' => (i = fin → wpHf P ops Q fin (fun _ => True) f (listed.setIfInBounds i true) a' w') ∧ (i ≠ fin → S w' ∧ wpHf P ops Q fin S f (listed.setIfInBounds i true) a' w')) a w

section
variable {P : Program} {ops : Array Oper} {Q : Exit → Act → World → Prop} {fin : Nat}
theorem wpHf_mono : ∀ (f : Nat) {S S' : World → Prop} (hS : ∀ w, S' w → S w) (listed : Array Bool) (a : Act) (w : World), wpHf P ops Q fin S' f listed a w → wpHf P ops Q fin S f listed a w
  | 0, _, _, _, _, _, _, h => h
  | f + 1, S, S', hS, _, _, _, h => ⟨h.1, fun i hi => wpOp_mono (fun a' w' h' => ⟨h'.1, fun ne => ⟨hS _ (h'.2 ne).1, wpHf_mono f hS _ a' w' (h'.2 ne).2⟩⟩) (h.2 i hi)⟩
theorem wpAny_of_hf : ∀ (f : Nat) {S : World → Prop} (listed : Array Bool) (a : Act) (w : World), wpHf P ops Q fin S f listed a w → wpAny P .any ops Q f listed a w
  | 0, _, _, _, _, h => h
  | f + 1, S, listed, a, w, h => ⟨fun h0 => absurd h0 h.1, fun i hi => wpOp_mono (fun a' w' h' => by
      by_cases e : i = fin
      · exact wpAny_of_hf f _ a' w' (h'.1 e)
      · exact wpAny_of_hf f _ a' w' (h'.2 e).2) (h.2 i hi)⟩

theorem wpHf_first {T : World → Prop} {i : Nat} {oi : Oper} {v : Value} (hi : ops[i]? = some oi) (hsel : ∀ (j : Nat) (o : Oper) cs b, ops[j]? = some o → o.op ≠ .select cs b) (hne : i ≠ fin)
    (hQ : ∀ c a w, Q (.panic c) (a.put oi.dst v) w → Q (.panic c) a w) (hfin : (∀ w, T w) ∨ ∀ o, ops[fin]? = some o → ∃ e ∈ o.after, Region.binds .any e = true ∧ e.on = i) :
    ∀ (f : Nat) {S : World → Prop} (hTS : ∀ w, S w → T w) (listed : Array Bool) (a : Act) (w : World),
      (∀ j oj, ops[j]? = some oj → j ≠ i → listed.getD j true = false → (∀ e ∈ oj.after, Region.binds .any e = true → e.on ≠ i) → oi.apart ops oj = true) →
      i ∈ Region.ready .any ops listed → YieldsIf P ops T oi v a → S w →
      wpHf P ops Q fin S f (listed.setIfInBounds i true) (a.put oi.dst v) w → wpHf P ops Q fin S (f + 1) listed a w := by
  intro f
  induction f with
  | zero =>
    intro S hTS listed a w _ hr hy hS H
    have hun := (mem_ready.1 hr).1
    refine ⟨fun h => (by rw [h] at hr; cases hr), fun j hj => ?_⟩
    by_cases hji : j = i
    · subst hji; exact hy.wpOp hi (hTS _ hS) ⟨fun e => absurd e hne, fun _ => ⟨hS, H⟩⟩
    · have h0 := ready_mono hj hji
      rw [H.1] at h0
      cases h0
  | succ f ih =>
    intro S hTS listed a w hfree hr hy hS H
    have hun := (mem_ready.1 hr).1
    refine ⟨fun h => (by rw [h] at hr; cases hr), fun j hj => ?_⟩
    by_cases hji : j = i
    · subst hji; exact hy.wpOp hi (hTS _ hS) ⟨fun e => absurd e hne, fun _ => ⟨hS, H⟩⟩
    · have h1 := H.2 j (ready_mono hj hji)
      obtain ⟨hjun, oj, hoj, hall⟩ := mem_ready.1 hj
      have hnot : ∀ e ∈ oj.after, Region.binds .any e = true → e.on ≠ i := fun e he hb heq => by
        have h1 := hall e he hb
        rw [heq, getD_both hun] at h1
        cases h1
      have h2 := wpOp_putIf hoj (hfree j oj hoj hji hjun hnot) (fun cs b => hsel i oi cs b hi) (fun cs b => hsel j oj cs b hoj) hQ hy h1
      have hfree' : ∀ k ok, ops[k]? = some ok → k ≠ i → (listed.setIfInBounds j true).getD k true = false →
          (∀ e ∈ ok.after, Region.binds .any e = true → e.on ≠ i) → oi.apart ops ok = true := fun k ok hk hki hun hno => by
        refine hfree k ok hk hki ?_ hno
        by_cases hjk : j = k
        · subst hjk; exact hjun
        · rw [getD_set_ne true hjk] at hun; exact hun
      refine wpOp_mono (fun a' w' h3 => ⟨fun e => ?_, fun ne => ⟨(h3.2.2 ne).1, ih hTS (listed.setIfInBounds j true) a' w' hfree' (ready_mono hr (Ne.symm hji)) h3.1 (h3.2.2 ne).1 ?_⟩⟩) h2
      · rcases hfin with hT | haw
        · refine ih (fun w _ => hT w) (listed.setIfInBounds j true) a' w' hfree' (ready_mono hr (Ne.symm hji)) h3.1 trivial ?_
          rw [Array.setIfInBounds_comm _ _ hji]
          exact h3.2.1 e
        · subst e
          obtain ⟨e, he, hb, hon⟩ := haw oj hoj
          exact absurd hon (hnot e he hb)
      · rw [Array.setIfInBounds_comm _ _ hji]
        exact (h3.2.2 ne).2
end

structure SF (P : Program) (n : Nat) (ops : Array Oper) (Q : Exit → Act → World → Prop) (fin f : Nat) (listed : Array Bool) (L : Env) (w : World) : Prop where
  out : ∀ a, Fit n a L → wpHf P ops (NoPanic Q) fin (Ext w) f listed a w
def SFQ (P : Program) (n : Nat) (ops : Array Oper) (Q : Exit → Act → World → Prop) (fin f : Nat) (listed : Array Bool) (w : World) : Exit → Act → World → Prop
  | .normal, a, w' => Ext w w' ∧ wpHf P ops (NoPanic Q) fin (Ext w') f listed a w'
  | e, a, w' => NoPanic Q e a w'

section
variable {P : Program} {n : Nat} {ops : Array Oper} {Q : Exit → Act → World → Prop} {fin f : Nat} {listed : Array Bool} {L : Env} {w : World}
/-- the last operation waits for number i itself -/
def awaitsB (ops : Array Oper) (fin i : Nat) : Bool := match ops[fin]? with
  | some o => o.after.any fun e => Region.binds .any e && Nat.beq e.on i
  | none => false
theorem awaits_spec {i : Nat} (h : awaitsB ops fin i = true) : ∀ o, ops[fin]? = some o → ∃ e ∈ o.after, Region.binds .any e = true ∧ e.on = i := fun o ho => by
  unfold awaitsB at h
  rw [ho] at h
  simp only [Array.any_eq_true', Bool.and_eq_true] at h
  obtain ⟨e, he, hb, hn⟩ := h
  exact ⟨e, he, hb, Nat.eq_of_beq_eq_true hn⟩

theorem SF.take (i : Nat) {o : Oper} (hB : Region.noSelect ops = true) (hi : ops[i]? = some o) (hf : Region.free .any ops listed i = true) (hr : (Region.ready .any ops listed).contains i = true) (hw : (awaitsB ops fin i && !Nat.beq i fin) = true)
    (h : SW P n ops (.tk fun L' => SF P n ops Q fin f (listed.setIfInBounds i true) L' w) [o] L w) : SF P n ops Q fin (f + 1) listed L w :=
  ⟨fun a ha => by
    have hs := h.out a ha
    simp only [Bool.and_eq_true, Bool.not_eq_true'] at hw
    have hne : i ≠ fin := fun e => by subst e; simp at hw
    have hr' : i ∈ Region.ready .any ops listed := by simpa using hr
    have hfin := awaits_spec hw.1
    simp only [swp, wpTk] at hs
    by_cases hw : Region.wanted o (yielded ops a.tmps) = true
    · rw [if_pos hw] at hs
      obtain ⟨v, hv, L', hf', hK⟩ := hs
      exact wpHf_first (T := Ext w) hi (Region.noSelect_spec hB) hne (fun _ _ _ h => (h : False).elim) (.inr hfin) f (fun _ h => h) listed a w (Region.free_spec hi hf) hr' (.inl ⟨hw, hv⟩) (Ext.refl w) (hK.out _ hf')
    · rw [if_neg hw] at hs
      obtain ⟨L', hf', hK⟩ := hs
      exact wpHf_first (T := Ext w) hi (Region.noSelect_spec hB) hne (fun _ _ _ h => (h : False).elim) (.inr hfin) f (fun _ h => h) listed a w (Region.free_spec hi hf) hr' (.inr ⟨by simpa using hw, rfl⟩) (Ext.refl w) (hK.out _ hf')⟩

/-- a value out of a tuple, in whatever world -/
theorem SF.takeX (i : Nat) {d : Nat} {x : Operand} {k : Nat} {T : TypeId} {pos : String} {af : Array Edge} {vs : Array Value} {v : Value} (hB : Region.noSelect ops = true) (hi : ops[i]? = some ⟨some d, .extract x k, T, pos, af, none⟩) (hf : Region.free .any ops listed i = true) (hr : (Region.ready .any ops listed).contains i = true) (hw : Nat.beq i fin = false)
    (hx : opv L x = some (.tuple vs)) (hv : vs[k]? = some v) (hn : Nat.blt d n = true) (h : SF P n ops Q fin f (listed.setIfInBounds i true) ((d, v) :: L) w) : SF P n ops Q fin (f + 1) listed L w :=
  ⟨fun a ha => by
    have hne : i ≠ fin := fun e => by subst e; simp at hw
    have hr' : i ∈ Region.ready .any ops listed := by simpa using hr
    refine wpHf_first (T := fun _ => True) hi (Region.noSelect_spec hB) hne (fun _ _ _ h => (h : False).elim) (.inl fun _ => trivial) f (fun _ _ => trivial) listed a w (Region.free_spec hi hf) hr' (v := v) (.inl ⟨by simp [Region.wanted], fun w' _ => by simp [execOp, ha.eval hx, Instr.extract, hv]⟩) (Ext.refl w) (h.out _ (ha.put hn v))⟩

theorem Oper.wp_sfq {o : Oper} {a : Act} {l : Array Bool} {N : Act → World → Prop} (h : o.wp P a w N (SFQ P n ops Q fin f l w)) : o.wp P a w N (NoPanic Q) := by
  unfold Oper.wp at *
  generalize (execOp a.eval o).run P w = r at *
  cases r with
  | ok x w' =>
    cases x <;> simp only [Oper.upon] at h ⊢
    case value => exact h
    case skip => exact h
    case defer => exact h
    case row => exact h
    case enter =>
      refine Calls.mono h fun e w'' he => ?_
      cases e <;> exact he
  | halt x w' =>
    cases x <;> simp only [Oper.upon] at h ⊢
    exact h
theorem LetsOut_sfq {l : Array Bool} (h : LetsOut (SFQ P n ops Q fin f l w)) : LetsOut (NoPanic Q) := h

/-- one alone may come up, and it is not the last -/
theorem SF.one (i : Nat) {o : Oper} (hi : ops[i]? = some o) (hr : Region.ready .any ops listed = [i]) (hw : Nat.beq i fin = false) (h : SW P n ops (.eff (SFQ P n ops Q fin f (listed.setIfInBounds i true) w)) [o] L w) : SF P n ops Q fin (f + 1) listed L w :=
  ⟨fun a ha => ⟨by rw [hr]; simp, fun j hj => by
    have hne : i ≠ fin := fun e => by subst e; simp at hw
    have hji : j = i := by rw [hr] at hj; simpa using hj
    subst hji
    have hs := h.out a ha
    have conv : ∀ a' w', SFQ P n ops Q fin f (listed.setIfInBounds j true) w .normal a' w' → (j = fin → wpHf P ops (NoPanic Q) fin (fun _ => True) f (listed.setIfInBounds j true) a' w') ∧ (j ≠ fin → Ext w w' ∧ wpHf P ops (NoPanic Q) fin (Ext w) f (listed.setIfInBounds j true) a' w') := fun a' w' hh =>
      ⟨fun e => absurd e hne, fun _ => ⟨hh.1, wpHf_mono f (fun w'' h'' => Ext.trans hh.1 h'') _ _ _ hh.2⟩⟩
    simp only [swp, wpList] at hs
    unfold wpOp
    simp only [hi]
    by_cases hw : Region.wanted o (yielded ops a.tmps) = true
    · rw [if_pos hw] at hs ⊢
      rcases hs with hs | ⟨h1, h2⟩
      · exact .inl (Oper.wp_mono conv (Oper.wp_sfq hs))
      · exact .inr ⟨h1, LetsOut_sfq h2⟩
    · rw [if_neg hw] at hs ⊢
      exact conv _ _ hs⟩⟩
theorem Post.sf {l : Array Bool} {w0 : World} (hx : Ext w0 w) (h : SF P n ops Q fin f l L w) : Post n (SFQ P n ops Q fin f l w0) .normal L w := ⟨fun a ha => ⟨hx, h.out a ha⟩⟩

/-- the last one -/
theorem SF.last {o : Oper} (hi : ops[fin]? = some o) (hr : Region.ready .any ops listed = [fin]) (he : Region.ready .any ops (listed.setIfInBounds fin true) = []) (h : SW P n ops (.eff (NoPanic Q)) [o] L w) : SF P n ops Q fin 1 listed L w :=
  ⟨fun a ha => ⟨by rw [hr]; simp, fun j hj => by
    have hji : j = fin := by rw [hr] at hj; simpa using hj
    subst hji
    have hs := h.out a ha
    have conv : ∀ a' w', NoPanic Q .normal a' w' → (True → wpHf P ops (NoPanic Q) j (fun _ => True) 0 (listed.setIfInBounds j true) a' w') ∧ (j ≠ j → Ext w w' ∧ wpHf P ops (NoPanic Q) j (Ext w) 0 (listed.setIfInBounds j true) a' w') := fun a' w' hh =>
      ⟨fun _ => ⟨he, hh⟩, fun e => absurd rfl e⟩
    simp only [swp, wpList] at hs
    unfold wpOp
    simp only [hi]
    by_cases hw : Region.wanted o (yielded ops a.tmps) = true
    · rw [if_pos hw] at hs ⊢
      rcases hs with hs | hs
      · exact .inl (Oper.wp_mono conv hs)
      · exact .inr hs
    · rw [if_neg hw] at hs ⊢
      exact conv _ _ hs⟩⟩

theorem CW.anyF {id : Nat} {l : List Oper} (fin : Nat) (hm : P.follows .mixedOrders = true) (hB : Region.noSelect l.toArray = true) (h : ∀ w', Ext w w' → Region.noSelect l.toArray = true → SF P n l.toArray Q fin l.length (Array.replicate l.length false) L w') : CW P n (.region id l.toArray true) Q L w :=
  ⟨fun a ha => by
    refine wp_region_noPanic (wp_region_any hm ?_)
    have h0 := (h _ (Ext.drew w) hB).out a ha
    have := wpAny_of_hf _ _ _ _ h0
    simpa using this⟩
end
end Go.Proofs.Ytfdmgflboibdoaa
