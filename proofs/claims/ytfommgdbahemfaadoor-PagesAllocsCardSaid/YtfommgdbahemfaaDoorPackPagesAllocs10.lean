/-
  Texts of the claim PagesAllocs, part 10: what its theorem leans on.
-/
import Derived.Test.YtfommgdbahemfaaDoorPackPagesAllocs1
set_option linter.unusedVariables false
namespace Go.Proofs.YtfommgdbahemfaaDoor
open Go.RowKit
def wpHf (P : Program) (ops : Array Oper) (Q : Exit → Act → World → Prop) (fin lst : Nat) (S2 : World → Prop) : (World → Prop) → Nat → Array Bool → Act → World → Prop
 | _, 0, listed, a, w => Region.ready .any ops listed = [] ∧ Q .normal a w
 | S, f + 1, listed, a, w => Region.ready .any ops listed ≠ [] ∧ ∀ i ∈ Region.ready .any ops listed, i < ops.size ∧ wpOp P ops Q i (fun a' w' => (i = lst → wpHf P ops Q fin lst S2 (fun _ => True) f (listed.setIfInBounds i true) a' w') ∧
   (i ≠ lst → i = fin → S2 w' ∧ wpHf P ops Q fin lst S2 S2 f (listed.setIfInBounds i true) a' w') ∧ (i ≠ lst → i ≠ fin → S w' ∧ wpHf P ops Q fin lst S2 S f (listed.setIfInBounds i true) a' w')) a w
section
variable {P : Program} {ops : Array Oper} {Q : Exit → Act → World → Prop} {fin lst : Nat} {S2 : World → Prop}
theorem wpHf_mono : ∀ (f : Nat) {S S' : World → Prop} (hS : ∀ w, S' w → S w) (listed : Array Bool) (a : Act) (w : World), wpHf P ops Q fin lst S2 S' f listed a w → wpHf P ops Q fin lst S2 S f listed a w
 | 0, _, _, _, _, _, _, h => h
 | f + 1, S, S', hS, _, _, _, h => ⟨h.1, fun i hi => ⟨(h.2 i hi).1, wpOp_mono (fun a' w' h' => ⟨h'.1, h'.2.1, fun n1 n2 => ⟨hS _ (h'.2.2 n1 n2).1, wpHf_mono f hS _ a' w' (h'.2.2 n1 n2).2⟩⟩) (h.2 i hi).2⟩⟩
theorem wpAny_of_hf : ∀ (f : Nat) {S : World → Prop} (listed : Array Bool) (a : Act) (w : World), wpHf P ops Q fin lst S2 S f listed a w → wpAny P .any ops Q f listed a w
 | 0, _, _, _, _, h => h
 | f + 1, S, listed, a, w, h => ⟨fun h0 => absurd h0 h.1, fun i hi => wpOp_mono (fun a' w' h' => by
   by_cases e : i = lst
   ·exact wpAny_of_hf f _ a' w' (h'.1 e)
   ·by_cases e2 : i = fin
    ·exact wpAny_of_hf f _ a' w' (h'.2.1 e e2).2
    ·exact wpAny_of_hf f _ a' w' (h'.2.2 e e2).2) (h.2 i hi).2⟩
def awaitsP (ops : Array Oper) (k : Nat) : List Nat → Nat → Bool
 | [], i => match ops[k]? with
  | some o => o.after.any fun e => Region.binds .any e && Nat.beq e.on i
  | none => false
 | x :: r, i => (match ops[k]? with
  | some o => o.after.any fun e => Region.binds .any e && Nat.beq e.on x
  | none => false) && awaitsP ops x r i
theorem await1 {k i : Nat} (h : (match ops[k]? with | some o => o.after.any fun e => Region.binds .any e && Nat.beq e.on i | none => false) = true) : ∃ o, ops[k]? = some o ∧ ∃ e ∈ o.after, Region.binds .any e = true ∧ e.on = i := by
 cases ho : ops[k]? with
 | none => rw [ho] at h; cases h
 | some o =>
  rw [ho] at h
  simp only [Array.any_eq_true', Bool.and_eq_true] at h
  obtain ⟨e, he, hb, hn⟩ := h
  exact ⟨o, rfl, e, he, hb, Nat.eq_of_beq_eq_true hn⟩
theorem awaits_closed {n : Nat} {listed : Array Bool} (inv : HeadInv .any ops n listed) : ∀ (p : List Nat) (k i : Nat), awaitsP ops k p i = true → listed.getD k false = true → listed.getD i false = true
 | [], k, i, h, hk => by
  obtain ⟨o, ho, e, he, hb, hon⟩ := await1 h
  rw [← hon]; exact inv.closed k o ho hk e he hb
 | x :: r, k, i, h, hk => by
  simp only [awaitsP, Bool.and_eq_true] at h
  obtain ⟨o, ho, e, he, hb, hon⟩ := await1 h.1
  exact awaits_closed inv r x i h.2 (by rw [← hon]; exact inv.closed k o ho hk e he hb)
theorem awaits_ready {n : Nat} {listed : Array Bool} (inv : HeadInv .any ops n listed) {p : List Nat} {k i : Nat} (h : awaitsP ops k p i = true) (hk : k ∈ Region.ready .any ops listed) : listed.getD i false = true := by
 obtain ⟨_, o, ho, hall⟩ := mem_ready.1 hk
 cases p with
 | nil =>
  obtain ⟨o', ho', e, he, hb, hon⟩ := await1 h
  rw [ho] at ho'
  cases ho'
  rw [← hon]; exact hall e he hb
 | cons x r =>
  simp only [awaitsP, Bool.and_eq_true] at h
  obtain ⟨o', ho', e, he, hb, hon⟩ := await1 h.1
  rw [ho] at ho'
  cases ho'
  exact awaits_closed inv r x i h.2 (by rw [← hon]; exact hall e he hb)
theorem wpHf_first {T : World → Prop} {i : Nat} {oi : Oper} {v : Value} (hi : ops[i]? = some oi) (hsel : ∀ (j : Nat) (o : Oper) cs b, ops[j]? = some o → o.op ≠ .select cs b) (hn1 : i ≠ lst) (hn2 : i ≠ fin)
  (hQ : ∀ c a w, Q (.panic c) (a.put oi.dst v) w → Q (.panic c) a w) (hlst : (∀ w, T w) ∨ ∃ p, awaitsP ops lst p i = true) (hfin : (∀ w, S2 w → T w) ∨ ∃ p, awaitsP ops fin p i = true) :
  ∀ (f : Nat) {S : World → Prop} (hTS : ∀ w, S w → T w) (listed : Array Bool) (a : Act) (w : World), HeadInv .any ops ops.size listed →
   (∀ j oj, ops[j]? = some oj → j ≠ i → listed.getD j true = false → (∀ e ∈ oj.after, Region.binds .any e = true → e.on ≠ i) → oi.apart ops oj = true) →
   i ∈ Region.ready .any ops listed → YieldsIf P ops T oi v a → S w →
   wpHf P ops Q fin lst S2 S f (listed.setIfInBounds i true) (a.put oi.dst v) w → wpHf P ops Q fin lst S2 S (f + 1) listed a w := by
 intro f
 induction f with
 | zero =>
  intro S hTS listed a w inv _ hr hy hS H
  have hun := (mem_ready.1 hr).1
  refine ⟨fun h => (by rw [h] at hr; cases hr), fun j hj => ?_⟩
  have hjn : j < ops.size := by obtain ⟨_, o, ho, _⟩ := mem_ready.1 hj; exact (Array.getElem?_eq_some_iff.1 ho).1
  refine ⟨hjn, ?_⟩
  by_cases hji : j = i
  ·subst hji; exact hy.wpOp hi (hTS _ hS) ⟨fun e => absurd e hn1, fun _ e => absurd e hn2, fun _ _ => ⟨hS, H⟩⟩
  ·have h0 := ready_mono hj hji
   rw [H.1] at h0
   cases h0
 | succ f ih =>
  intro S hTS listed a w inv hfree hr hy hS H
  have hun := (mem_ready.1 hr).1
  refine ⟨fun h => (by rw [h] at hr; cases hr), fun j hj => ?_⟩
  have hjn : j < ops.size := by obtain ⟨_, o, ho, _⟩ := mem_ready.1 hj; exact (Array.getElem?_eq_some_iff.1 ho).1
  refine ⟨hjn, ?_⟩
  by_cases hji : j = i
  ·subst hji; exact hy.wpOp hi (hTS _ hS) ⟨fun e => absurd e hn1, fun _ e => absurd e hn2, fun _ _ => ⟨hS, H⟩⟩
  ·have h1 := (H.2 j (ready_mono hj hji)).2
   obtain ⟨hjun, oj, hoj, hall⟩ := mem_ready.1 hj
   have hnot : ∀ e ∈ oj.after, Region.binds .any e = true → e.on ≠ i := fun e he hb heq => by
    have h1 := hall e he hb
    rw [heq, getD_both hun] at h1
    cases h1
   have h2 := wpOp_putIf hoj (hfree j oj hoj hji hjun hnot) (fun cs b => hsel i oi cs b hi) (fun cs b => hsel j oj cs b hoj) hQ hy h1
   have hfree' : ∀ k ok, ops[k]? = some ok → k ≠ i → (listed.setIfInBounds j true).getD k true = false →
     (∀ e ∈ ok.after, Region.binds .any e = true → e.on ≠ i) → oi.apart ops ok = true := fun k ok hk hki hun hno => by
    refine hfree k ok hk hki ?_ hno
    by_cases hjk : j = k
    ·subst hjk; exact hjun
    ·rw [getD_set_ne true hjk] at hun; exact hun
   have inv' := inv.set hj hjn
   have no : ∀ {k : Nat} {p : List Nat}, awaitsP ops k p i = true → j = k → False := fun {k p} haw e => by
    subst e
    have := awaits_ready inv haw hj
    rw [getD_both hun] at this
    cases this
   refine wpOp_mono (fun a' w' h3 => ⟨fun e => ?_, fun n1 e => ?_, fun n1 n2 => ⟨(h3.2.2.2 n1 n2).1, ih hTS (listed.setIfInBounds j true) a' w' inv' hfree' (ready_mono hr (Ne.symm hji)) h3.1 (h3.2.2.2 n1 n2).1 ?_⟩⟩) h2
   ·rcases hlst with hT | ⟨p, haw⟩
    ·refine ih (fun w _ => hT w) (listed.setIfInBounds j true) a' w' inv' hfree' (ready_mono hr (Ne.symm hji)) h3.1 trivial ?_
     rw [Array.setIfInBounds_comm _ _ hji]
     exact h3.2.1 e
    ·exact (no haw e).elim
   ·rcases hfin with hT | ⟨p, haw⟩
    ·refine ⟨(h3.2.2.1 n1 e).1, ih hT (listed.setIfInBounds j true) a' w' inv' hfree' (ready_mono hr (Ne.symm hji)) h3.1 (h3.2.2.1 n1 e).1 ?_⟩
     rw [Array.setIfInBounds_comm _ _ hji]
     exact (h3.2.2.1 n1 e).2
    ·exact (no haw e).elim
   ·rw [Array.setIfInBounds_comm _ _ hji]
    exact (h3.2.2.2 n1 n2).2
end
structure SF (P : Program) (n : Nat) (ops : Array Oper) (Q : Exit → Act → World → Prop) (fin lst : Nat) (S2 : World → Prop) (f : Nat) (listed : Array Bool) (L : Env) (w : World) : Prop where
 out : ∀ a, Fit n a L → HeadInv .any ops ops.size listed → wpHf P ops (NoPanic Q) fin lst S2 (Ext w) f listed a w
structure SG (P : Program) (n : Nat) (ops : Array Oper) (Q : Exit → Act → World → Prop) (fin lst : Nat) (S2 : World → Prop) (f : Nat) (listed : Array Bool) (L : Env) (w : World) : Prop where
 out : ∀ a, Fit n a L → HeadInv .any ops ops.size listed → wpHf P ops (NoPanic Q) fin lst S2 S2 f listed a w
def SFQ (P : Program) (n : Nat) (ops : Array Oper) (Q : Exit → Act → World → Prop) (fin lst : Nat) (S2 : World → Prop) (f : Nat) (listed : Array Bool) (w : World) : Exit → Act → World → Prop
 | .normal, a, w' => Ext w w' ∧ (HeadInv .any ops ops.size listed → wpHf P ops (NoPanic Q) fin lst S2 (Ext w') f listed a w')
 | e, a, w' => NoPanic Q e a w'
def SGQ (P : Program) (n : Nat) (ops : Array Oper) (Q : Exit → Act → World → Prop) (fin lst : Nat) (S2 : World → Prop) (f : Nat) (listed : Array Bool) : Exit → Act → World → Prop
 | .normal, a, w' => S2 w' ∧ (HeadInv .any ops ops.size listed → wpHf P ops (NoPanic Q) fin lst S2 S2 f listed a w')
 | e, a, w' => NoPanic Q e a w'
section
variable {P : Program} {n : Nat} {ops : Array Oper} {Q : Exit → Act → World → Prop} {fin lst f : Nat} {S2 : World → Prop} {listed : Array Bool} {L : Env} {w : World}
theorem nes {i : Nat} (h : (!Nat.beq i lst && !Nat.beq i fin) = true) : i ≠ lst ∧ i ≠ fin := by
 simp only [Bool.and_eq_true, Bool.not_eq_true'] at h
 exact ⟨fun e => by subst e; simp at h, fun e => by subst e; simp at h⟩
theorem SF.take (i : Nat) (p q : List Nat) {o : Oper} (hB : Region.noSelect ops = true) (hi : ops[i]? = some o) (hf : Region.free .any ops listed i = true) (hr : (Region.ready .any ops listed).contains i = true) (hw : ((awaitsP ops fin p i && awaitsP ops lst q i) && (!Nat.beq i lst && !Nat.beq i fin)) = true)
  (h : SW P n ops (.tk fun L' => SF P n ops Q fin lst S2 f (listed.setIfInBounds i true) L' w) [o] L w) : SF P n ops Q fin lst S2 (f + 1) listed L w :=
 ⟨fun a ha inv => by
  have hs := h.out a ha
  rw [Bool.and_eq_true, Bool.and_eq_true] at hw
  obtain ⟨⟨hw1, hw2⟩, hw3⟩ := hw
  obtain ⟨n1, n2⟩ := nes hw3
  have hr' : i ∈ Region.ready .any ops listed := by simpa using hr
  have hin : i < ops.size := (Array.getElem?_eq_some_iff.1 hi).1
  simp only [swp, wpTk] at hs
  by_cases hw : Region.wanted o (yielded ops a.tmps) = true
  ·rw [if_pos hw] at hs
   obtain ⟨v, hv, L', hf', hK⟩ := hs
   exact wpHf_first (T := Ext w) hi (Region.noSelect_spec hB) n1 n2 (fun _ _ _ h => (h : False).elim) (.inr ⟨q, hw2⟩) (.inr ⟨p, hw1⟩) f (fun _ h => h) listed a w inv (Region.free_spec hi hf) hr' (.inl ⟨hw, hv⟩) (Ext.refl w) (hK.out _ hf' (inv.set hr' hin))
  ·rw [if_neg hw] at hs
   obtain ⟨L', hf', hK⟩ := hs
   exact wpHf_first (T := Ext w) hi (Region.noSelect_spec hB) n1 n2 (fun _ _ _ h => (h : False).elim) (.inr ⟨q, hw2⟩) (.inr ⟨p, hw1⟩) f (fun _ h => h) listed a w inv (Region.free_spec hi hf) hr' (.inr ⟨by simpa using hw, rfl⟩) (Ext.refl w) (hK.out _ hf' (inv.set hr' hin))⟩
theorem SF.take2 (i : Nat) (q : List Nat) {d : Nat} {op : Op} {T : TypeId} {pos : String} {af : Array Edge} {v : Value} (hB : Region.noSelect ops = true) (hi : ops[i]? = some ⟨some d, op, T, pos, af, none⟩) (hf : Region.free .any ops listed i = true) (hr : (Region.ready .any ops listed).contains i = true) (hw : (awaitsP ops lst q i && (!Nat.beq i lst && !Nat.beq i fin)) = true)
  (h1 : St P ⟨some d, op, T, pos, af, none⟩ L w v) (h2 : ∀ w2, S2 w2 → St P ⟨some d, op, T, pos, af, none⟩ L w2 v) (hn : Nat.blt d n = true) (h : SF P n ops Q fin lst S2 f (listed.setIfInBounds i true) ((d, v) :: L) w) : SF P n ops Q fin lst S2 (f + 1) listed L w :=
 ⟨fun a ha inv => by
  rw [Bool.and_eq_true] at hw
  obtain ⟨hw1, hw3⟩ := hw
  obtain ⟨n1, n2⟩ := nes hw3
  have hr' : i ∈ Region.ready .any ops listed := by simpa using hr
  have hin : i < ops.size := (Array.getElem?_eq_some_iff.1 hi).1
  exact wpHf_first (T := fun w' => Ext w w' ∨ S2 w') hi (Region.noSelect_spec hB) n1 n2 (fun _ _ _ h => (h : False).elim) (.inr ⟨q, hw1⟩) (.inl fun _ => .inr) f (fun _ => .inl) listed a w inv (Region.free_spec hi hf) hr' (v := v)
   (.inl ⟨by simp [Region.wanted], fun w' hh => by rcases hh with hh | hh; exact h1.out n a ha w' hh; exact (h2 w' hh).out n a ha w' (Ext.refl w')⟩) (Ext.refl w) (h.out _ (ha.put hn v) (inv.set hr' hin))⟩
theorem SF.takeX (i : Nat) {d : Nat} {op : Op} {T : TypeId} {pos : String} {af : Array Edge} {v : Value} (hB : Region.noSelect ops = true) (hi : ops[i]? = some ⟨some d, op, T, pos, af, none⟩) (hf : Region.free .any ops listed i = true) (hr : (Region.ready .any ops listed).contains i = true) (hw : (!Nat.beq i lst && !Nat.beq i fin) = true)
  (h1 : ∀ w2, St P ⟨some d, op, T, pos, af, none⟩ L w2 v) (hn : Nat.blt d n = true) (h : SF P n ops Q fin lst S2 f (listed.setIfInBounds i true) ((d, v) :: L) w) : SF P n ops Q fin lst S2 (f + 1) listed L w :=
 ⟨fun a ha inv => by
  obtain ⟨n1, n2⟩ := nes hw
  have hr' : i ∈ Region.ready .any ops listed := by simpa using hr
  have hin : i < ops.size := (Array.getElem?_eq_some_iff.1 hi).1
  exact wpHf_first (T := fun _ => True) hi (Region.noSelect_spec hB) n1 n2 (fun _ _ _ h => (h : False).elim) (.inl fun _ => trivial) (.inl fun _ _ => trivial) f (fun _ _ => trivial) listed a w inv (Region.free_spec hi hf) hr' (v := v)
   (.inl ⟨by simp [Region.wanted], fun w' _ => (h1 w').out n a ha w' (Ext.refl w')⟩) (Ext.refl w) (h.out _ (ha.put hn v) (inv.set hr' hin))⟩
theorem Oper.wp_part {o : Oper} {a : Act} {N : Act → World → Prop} {Q1 Q2 : Exit → Act → World → Prop} (hq : ∀ e a w, e ≠ .normal → Q1 e a w → Q2 e a w) (hl : LetsOut Q1 → LetsOut Q2) (h : o.wp P a w N Q1) : o.wp P a w N Q2 := by
 unfold Oper.wp at *
 generalize (execOp a.eval o).run P w = r at *
 cases r with
 | ok x w' =>
  cases x <;> simp only [Oper.upon] at h ⊢
  case value => exact h
  case skip => exact h
  case defer => exact h
  case row => exact h
  case enter =>
   refine Calls.mono h fun e w'' he => ?_
   cases e
   ·exact he
   ·exact hq _ _ _ (by simp) he
   ·exact hl he
 | halt x w' =>
  cases x <;> simp only [Oper.upon] at h ⊢
  exact hq _ _ _ (by simp) h
theorem stepF {i : Nat} {o : Oper} {a : Act} {Q1 : Exit → Act → World → Prop} {K : Act → World → Prop} (hi : ops[i]? = some o) (hq : ∀ e a w, e ≠ .normal → Q1 e a w → NoPanic Q e a w) (hl : LetsOut Q1 → LetsOut (NoPanic Q)) (conv : ∀ a' w', Q1 .normal a' w' → K a' w') (hs : wpList P ops Q1 [o] a w) : wpOp P ops (NoPanic Q) i K a w := by
 simp only [wpList] at hs
 unfold wpOp
 simp only [hi]
 by_cases hw : Region.wanted o (yielded ops a.tmps) = true
 ·rw [if_pos hw] at hs ⊢
  rcases hs with hs | ⟨h1, h2⟩
  ·exact .inl (Oper.wp_mono conv (Oper.wp_part hq hl hs))
  ·exact .inr ⟨h1, hl h2⟩
 ·rw [if_neg hw] at hs ⊢
  exact conv _ _ hs
theorem SF.one (i : Nat) {o : Oper} (hi : ops[i]? = some o) (hr : Region.ready .any ops listed = [i]) (hw : (!Nat.beq i lst && !Nat.beq i fin) = true) (h : SW P n ops (.eff (SFQ P n ops Q fin lst S2 f (listed.setIfInBounds i true) w)) [o] L w) : SF P n ops Q fin lst S2 (f + 1) listed L w :=
 ⟨fun a ha inv => ⟨by rw [hr]; simp, fun j hj => by
  obtain ⟨n1, n2⟩ := nes hw
  have hji : j = i := by rw [hr] at hj; simpa using hj
  subst hji
  have hin : j < ops.size := (Array.getElem?_eq_some_iff.1 hi).1
  refine ⟨hin, stepF (Q1 := SFQ P n ops Q fin lst S2 f (listed.setIfInBounds j true) w) hi (fun e a w ne h => by cases e <;> first | exact h | exact absurd rfl ne) (fun h => h) (fun a' w' hh => ⟨fun e => absurd e n1, fun _ e => absurd e n2, fun _ _ => ⟨hh.1, wpHf_mono f (fun w'' h'' => Ext.trans hh.1 h'') _ _ _ (hh.2 (inv.set hj hin))⟩⟩) (h.out a ha)⟩⟩⟩
theorem Post.sf {l : Array Bool} {w0 : World} (hx : Ext w0 w) (h : SF P n ops Q fin lst S2 f l L w) : Post n (SFQ P n ops Q fin lst S2 f l w0) .normal L w := ⟨fun a ha => ⟨hx, h.out a ha⟩⟩
theorem SF.turn {o : Oper} (hi : ops[fin]? = some o) (hr : Region.ready .any ops listed = [fin]) (hw : Nat.beq fin lst = false) (h : SW P n ops (.eff (SGQ P n ops Q fin lst S2 f (listed.setIfInBounds fin true))) [o] L w) : SF P n ops Q fin lst S2 (f + 1) listed L w :=
 ⟨fun a ha inv => ⟨by rw [hr]; simp, fun j hj => by
  have hji : j = fin := by rw [hr] at hj; simpa using hj
  have n1 : j ≠ lst := fun e => by rw [← hji, e] at hw; simp at hw
  subst hji
  have hin : j < ops.size := (Array.getElem?_eq_some_iff.1 hi).1
  exact ⟨hin, stepF (Q1 := SGQ P n ops Q j lst S2 f (listed.setIfInBounds j true)) hi (fun e a w ne h => by cases e <;> first | exact h | exact absurd rfl ne) (fun h => h) (fun a' w' hh => ⟨fun e => absurd e n1, fun _ _ => ⟨hh.1, hh.2 (inv.set hj hin)⟩, fun _ n2 => absurd rfl n2⟩) (h.out a ha)⟩⟩⟩
theorem Post.sg {l : Array Bool} (hx : S2 w) (h : SG P n ops Q fin lst S2 f l L w) : Post n (SGQ P n ops Q fin lst S2 f l) .normal L w := ⟨fun a ha => ⟨hx, h.out a ha⟩⟩
theorem SG.one (i : Nat) {o : Oper} (hi : ops[i]? = some o) (hr : Region.ready .any ops listed = [i]) (hw : (!Nat.beq i lst && !Nat.beq i fin) = true) (h : SW P n ops (.eff (SGQ P n ops Q fin lst S2 f (listed.setIfInBounds i true))) [o] L w) : SG P n ops Q fin lst S2 (f + 1) listed L w :=
 ⟨fun a ha inv => ⟨by rw [hr]; simp, fun j hj => by
  obtain ⟨n1, n2⟩ := nes hw
  have hji : j = i := by rw [hr] at hj; simpa using hj
  subst hji
  have hin : j < ops.size := (Array.getElem?_eq_some_iff.1 hi).1
  exact ⟨hin, stepF (Q1 := SGQ P n ops Q fin lst S2 f (listed.setIfInBounds j true)) hi (fun e a w ne h => by cases e <;> first | exact h | exact absurd rfl ne) (fun h => h) (fun a' w' hh => ⟨fun e => absurd e n1, fun _ e => absurd e n2, fun _ _ => ⟨hh.1, hh.2 (inv.set hj hin)⟩⟩) (h.out a ha)⟩⟩⟩
theorem SF.last {o : Oper} (hi : ops[lst]? = some o) (hr : Region.ready .any ops listed = [lst]) (he : Region.ready .any ops (listed.setIfInBounds lst true) = []) (h : SW P n ops (.eff (NoPanic Q)) [o] L w) : SF P n ops Q fin lst S2 1 listed L w :=
 ⟨fun a ha inv => ⟨by rw [hr]; simp, fun j hj => by
  have hji : j = lst := by rw [hr] at hj; simpa using hj
  subst hji
  exact ⟨(Array.getElem?_eq_some_iff.1 hi).1, stepF (Q1 := NoPanic Q) hi (fun _ _ _ _ h => h) (fun h => h) (fun a' w' hh => ⟨fun _ => ⟨he, hh⟩, fun n => absurd rfl n, fun n => absurd rfl n⟩) (h.out a ha)⟩⟩⟩
theorem SG.last {o : Oper} (hi : ops[lst]? = some o) (hr : Region.ready .any ops listed = [lst]) (he : Region.ready .any ops (listed.setIfInBounds lst true) = []) (h : SW P n ops (.eff (NoPanic Q)) [o] L w) : SG P n ops Q fin lst S2 1 listed L w :=
 ⟨fun a ha inv => ⟨by rw [hr]; simp, fun j hj => by
  have hji : j = lst := by rw [hr] at hj; simpa using hj
  subst hji
  exact ⟨(Array.getElem?_eq_some_iff.1 hi).1, stepF (Q1 := NoPanic Q) hi (fun _ _ _ _ h => h) (fun h => h) (fun a' w' hh => ⟨fun _ => ⟨he, hh⟩, fun n => absurd rfl n, fun n => absurd rfl n⟩) (h.out a ha)⟩⟩⟩
theorem CW.anyF {id : Nat} {l : List Oper} (fin lst : Nat) (S2 : World → Prop) (hm : P.follows .mixedOrders = true) (hB : Region.noSelect l.toArray = true) (h : ∀ w', Ext w w' → Region.noSelect l.toArray = true → SF P n l.toArray Q fin lst S2 l.length (Array.replicate l.length false) L w') : CW P n (.region id l.toArray true) Q L w :=
 ⟨fun a ha => by
  refine wp_region_noPanic (wp_region_any hm ?_)
  have h0 := (h _ (Ext.drew w) hB).out a ha ⟨by simp, fun j oj _ hl => (by rw [getD_replicate_false] at hl; cases hl), fun t h1 h2 => absurd h2 (Nat.not_lt.2 h1)⟩
  have := wpAny_of_hf _ _ _ _ h0
  simpa using this⟩
end
end Go.Proofs.YtfommgdbahemfaaDoor
