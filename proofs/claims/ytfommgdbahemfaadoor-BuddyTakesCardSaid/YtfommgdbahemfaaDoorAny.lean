/-
  A region that draws its order, with calls and new memory in it: what is steady is taken first; what is not comes in whatever order; a tail in one forced order ends it. No program in sight.
-/
import Derived.Test.YtfommgdbahemfaaDoorEng
import Derived.StillTail
import Derived.Deep.RegionHeld3
set_option linter.unusedVariables false
namespace Go.Proofs.YtfommgdbahemfaaDoor
open Go.RowKit

/-- the head of a region, in whatever order; S holds behind each operation -/
def wpHd (P : Program) (md : Region.Mode) (ops : Array Oper) (Q : Exit → Act → World → Prop) (nh : Nat) (K : Array Bool → Act → World → Prop) : (World → Prop) → Nat → Array Bool → Act → World → Prop
  | _, 0, listed, a, w => K listed a w
  | S, f + 1, listed, a, w => Region.ready md ops listed ≠ [] ∧ ∀ i ∈ Region.ready md ops listed, i < nh ∧ wpOp P ops Q i (fun a' w' => S w' ∧ wpHd P md ops Q nh K S f (listed.setIfInBounds i true) a' w') a w

section
variable {P : Program} {md : Region.Mode} {ops : Array Oper} {Q : Exit → Act → World → Prop} {nh : Nat} {K : Array Bool → Act → World → Prop}

theorem wpHd_mono {S S' : World → Prop} (hS : ∀ w, S' w → S w) : ∀ (f : Nat) (listed : Array Bool) (a : Act) (w : World), wpHd P md ops Q nh K S' f listed a w → wpHd P md ops Q nh K S f listed a w
  | 0, _, _, _, h => h
  | f + 1, _, _, _, h => ⟨h.1, fun i hi => ⟨(h.2 i hi).1, wpOp_mono (fun a' w' h' => ⟨hS _ h'.1, wpHd_mono hS f _ a' w' h'.2⟩) (h.2 i hi).2⟩⟩

theorem wpAny_of_hd {S : World → Prop} {g : Nat} (hK : ∀ listed a w, K listed a w → wpAny P md ops Q g listed a w) : ∀ (f : Nat) (listed : Array Bool) (a : Act) (w : World), wpHd P md ops Q nh K S f listed a w → wpAny P md ops Q (f + g) listed a w
  | 0, listed, a, w, h => by rw [Nat.zero_add]; exact hK _ _ _ h
  | f + 1, listed, a, w, h => by
    rw [show f + 1 + g = (f + g) + 1 by omega]
    exact ⟨fun h0 => absurd h0 h.1, fun i hi => wpOp_mono (fun a' w' h' => wpAny_of_hd hK f _ a' w' h'.2) (h.2 i hi).2⟩

/-- while an operation of the head waits, none of the tail may come up -/
def Waits (md : Region.Mode) (ops : Array Oper) (nh : Nat) : Prop := ∀ listed, HeadInv md ops nh listed → ∀ i, i < nh → listed.getD i true = false → ∀ t, nh ≤ t → t ∉ Region.ready md ops listed

theorem wpHd_first {S : World → Prop} {i : Nat} {oi : Oper} {v : Value} (hi : ops[i]? = some oi) (hsel : ∀ (j : Nat) (o : Oper) cs b, ops[j]? = some o → o.op ≠ .select cs b)
    (hwt : Waits md ops nh) (hin : i < nh) (hQ : ∀ c a w, Q (.panic c) (a.put oi.dst v) w → Q (.panic c) a w) (hdone : ∀ listed a w, K listed a w → ∀ j ∈ Region.ready md ops listed, nh ≤ j) :
    ∀ (f : Nat) (listed : Array Bool) (a : Act) (w : World), HeadInv md ops nh listed →
      (∀ j oj, ops[j]? = some oj → j ≠ i → listed.getD j true = false → (∀ e ∈ oj.after, Region.binds md e = true → e.on ≠ i) → oi.apart ops oj = true) →
      i ∈ Region.ready md ops listed → YieldsIf P ops S oi v a → S w →
      wpHd P md ops Q nh K S f (listed.setIfInBounds i true) (a.put oi.dst v) w → wpHd P md ops Q nh K S (f + 1) listed a w := by
  intro f
  induction f with
  | zero =>
    intro listed a w inv _ hr hy hS H
    have hun := (mem_ready.1 hr).1
    refine ⟨fun h => (by rw [h] at hr; cases hr), fun j hj => ?_⟩
    have hjn : j < nh := by
      rcases Nat.lt_or_ge j nh with h | h
      · exact h
      · exact absurd hj (hwt _ inv i hin hun j h)
    refine ⟨hjn, ?_⟩
    by_cases hji : j = i
    · subst hji; exact hy.wpOp hi hS ⟨hS, H⟩
    · have := hdone _ _ _ H j (ready_mono hj hji)
      omega
  | succ f ih =>
    intro listed a w inv hfree hr hy hS H
    have hun := (mem_ready.1 hr).1
    refine ⟨fun h => (by rw [h] at hr; cases hr), fun j hj => ?_⟩
    have hjn : j < nh := by
      rcases Nat.lt_or_ge j nh with h | h
      · exact h
      · exact absurd hj (hwt _ inv i hin hun j h)
    refine ⟨hjn, ?_⟩
    by_cases hji : j = i
    · subst hji; exact hy.wpOp hi hS ⟨hS, H⟩
    · have h1 := (H.2 j (ready_mono hj hji)).2
      obtain ⟨hjun, oj, hoj, hall⟩ := mem_ready.1 hj
      have hnot : ∀ e ∈ oj.after, Region.binds md e = true → e.on ≠ i := fun e he hb heq => by
        have h1 := hall e he hb
        rw [heq, getD_both hun] at h1
        cases h1
      have h2 := wpOp_putIf hoj (hfree j oj hoj hji hjun hnot) (fun cs b => hsel i oi cs b hi) (fun cs b => hsel j oj cs b hoj) hQ hy h1
      have hfree' : ∀ k ok, ops[k]? = some ok → k ≠ i → (listed.setIfInBounds j true).getD k true = false →
          (∀ e ∈ ok.after, Region.binds md e = true → e.on ≠ i) → oi.apart ops ok = true := fun k ok hk hki hun hno => by
        refine hfree k ok hk hki ?_ hno
        by_cases hjk : j = k
        · subst hjk; exact hjun
        · rw [getD_set_ne true hjk] at hun; exact hun
      refine wpOp_mono (fun a' w' h3 => ⟨h3.2.1, ih (listed.setIfInBounds j true) a' w' (inv.set hj hjn) hfree' (ready_mono hr (Ne.symm hji)) h3.1 h3.2.1 ?_⟩) h2
      rw [Array.setIfInBounds_comm _ _ hji]
      exact h3.2.2
end

/-- the region's own Bools -/
structure RB (ops : Array Oper) (nh : Nat) : Prop where
  sel : Region.noSelect ops = true
  waits : Waits .any ops nh

theorem rb_all {ops : Array Oper} {nh : Nat} (h : (Region.noSelect ops && Nat.beq nh ops.size) = true) : RB ops nh := by
  simp only [Bool.and_eq_true] at h
  refine ⟨h.1, fun listed inv i hi hun t ht hr => ?_⟩
  obtain ⟨_, o, ho, _⟩ := mem_ready.1 hr
  have := (Array.getElem?_eq_some_iff.1 ho).1
  have := Nat.eq_of_beq_eq_true h.2
  omega
theorem rb_tail {ops : Array Oper} {nh : Nat} (h : (Region.noSelect ops && (Nat.blt nh ops.size && (Region.sinkB .any ops nh && Region.chainB .any ops nh))) = true) : RB ops nh := by
  simp only [Bool.and_eq_true] at h
  exact ⟨h.1, fun listed inv i hi hun t ht hr => tail_waits h.2.2.1 h.2.2.2 (by simpa using h.2.1) inv _ i rfl hi hun t ht hr⟩

/-- what is asked when the head is done: the tail, one by one -/
def TailK (P : Program) (ops : Array Oper) (Q : Exit → Act → World → Prop) (nh : Nat) (l : List Oper) : Array Bool → Act → World → Prop := fun listed a w => Region.seqB .any ops l.length nh listed = true ∧ wpList P ops Q l a w

/-- a region's head, in whatever order, from what is known of the frame; 'tl': the tail -/
structure SA (P : Program) (n : Nat) (ops : Array Oper) (Q : Exit → Act → World → Prop) (nh : Nat) (tl : List Oper) (f : Nat) (listed : Array Bool) (L : Env) (w : World) : Prop where
  out : ∀ a, Fit n a L → HeadInv .any ops nh listed → wpHd P .any ops (NoPanic Q) nh (TailK P ops (NoPanic Q) nh tl) (Ext w) f listed a w

/-- the post of one operation of the head -/
def SAQ (P : Program) (n : Nat) (ops : Array Oper) (Q : Exit → Act → World → Prop) (nh : Nat) (tl : List Oper) (f : Nat) (listed : Array Bool) (w : World) : Exit → Act → World → Prop
  | .normal, a, w' => Ext w w' ∧ (HeadInv .any ops nh listed → wpHd P .any ops (NoPanic Q) nh (TailK P ops (NoPanic Q) nh tl) (Ext w') f listed a w')
  | e, a, w' => NoPanic Q e a w'

section
variable {P : Program} {n : Nat} {ops : Array Oper} {Q : Exit → Act → World → Prop} {nh f : Nat} {tl : List Oper} {listed : Array Bool} {L : Env} {w : World}

theorem getD_listed {listed : Array Bool} {i : Nat} (h : listed.getD i true = false) : i < listed.size := by
  rcases Nat.lt_or_ge i listed.size with h' | h'
  · exact h'
  · simp [Array.getElem?_eq_none h'] at h

/-- number i, which is steady, is taken first -/
theorem SA.take (i : Nat) {o : Oper} (hB : RB ops nh) (hi : ops[i]? = some o) (hf : Region.free .any ops listed i = true) (hr : (Region.ready .any ops listed).contains i = true) (hlt : Nat.blt i nh = true)
    (h : SW P n ops (.tk fun L' => SA P n ops Q nh tl f (listed.setIfInBounds i true) L' w) [o] L w) : SA P n ops Q nh tl (f + 1) listed L w :=
  ⟨fun a ha inv => by
    have hs := h.out a ha
    have hlt' : i < nh := by simpa using hlt
    have hr' : i ∈ Region.ready .any ops listed := by simpa using hr
    have hdone : ∀ listed a w, TailK P ops (NoPanic Q) nh tl listed a w → ∀ j ∈ Region.ready .any ops listed, nh ≤ j := fun _ _ _ hk => seqB_ready hk.1
    simp only [swp, wpTk] at hs
    by_cases hw : Region.wanted o (yielded ops a.tmps) = true
    · rw [if_pos hw] at hs
      obtain ⟨v, hv, L', hf', hK⟩ := hs
      exact wpHd_first hi (Region.noSelect_spec hB.sel) hB.waits hlt' (fun _ _ _ h => (h : False).elim) hdone f listed a w inv (Region.free_spec hi hf) hr' (.inl ⟨hw, hv⟩) (Ext.refl w) (hK.out _ hf' (inv.set hr' hlt'))
    · rw [if_neg hw] at hs
      obtain ⟨L', hf', hK⟩ := hs
      exact wpHd_first hi (Region.noSelect_spec hB.sel) hB.waits hlt' (fun _ _ _ h => (h : False).elim) hdone f listed a w inv (Region.free_spec hi hf) hr' (.inr ⟨by simpa using hw, rfl⟩) (Ext.refl w) (hK.out _ hf' (inv.set hr' hlt'))⟩

theorem LetsOut_saq {l : Array Bool} (h : LetsOut (SAQ P n ops Q nh tl f l w)) : LetsOut (NoPanic Q) := h

theorem Oper.wp_saq {o : Oper} {a : Act} {l : Array Bool} {N : Act → World → Prop} (h : o.wp P a w N (SAQ P n ops Q nh tl f l w)) : o.wp P a w N (NoPanic Q) := by
  unfold Oper.wp at *
  generalize (execOp a.eval o).run P w = r at *
  cases r with
  | ok x w' =>
    cases x <;> simp only [Oper.upon] at h ⊢
    case value => exact h
    case skip => exact h
    case defer => exact h
    case row => exact h
    case enter =>
      refine Calls.mono h fun e w'' he => ?_
      cases e <;> exact he
  | halt x w' =>
    cases x <;> simp only [Oper.upon] at h ⊢
    exact h

theorem SA.stepOf {i : Nat} {o : Oper} (hi : ops[i]? = some o) (hr : i ∈ Region.ready .any ops listed) (hlt : i < nh) {a : Act} (ha : Fit n a L) (inv : HeadInv .any ops nh listed) (h : SW P n ops (.eff (SAQ P n ops Q nh tl f (listed.setIfInBounds i true) w)) [o] L w) :
    wpOp P ops (NoPanic Q) i (fun a' w' => Ext w w' ∧ wpHd P .any ops (NoPanic Q) nh (TailK P ops (NoPanic Q) nh tl) (Ext w) f (listed.setIfInBounds i true) a' w') a w := by
  have hs := h.out a ha
  have inv' := inv.set hr hlt
  have conv : ∀ a' w', SAQ P n ops Q nh tl f (listed.setIfInBounds i true) w .normal a' w' → Ext w w' ∧ wpHd P .any ops (NoPanic Q) nh (TailK P ops (NoPanic Q) nh tl) (Ext w) f (listed.setIfInBounds i true) a' w' := fun a' w' hh =>
    ⟨hh.1, wpHd_mono (fun w'' h'' => Ext.trans hh.1 h'') _ _ _ _ (hh.2 inv')⟩
  simp only [swp, wpList] at hs
  unfold wpOp
  simp only [hi]
  by_cases hw : Region.wanted o (yielded ops a.tmps) = true
  · rw [if_pos hw] at hs ⊢
    rcases hs with hs | ⟨h1, h2⟩
    · exact .inl (Oper.wp_mono conv (Oper.wp_saq hs))
    · exact .inr ⟨h1, LetsOut_saq h2⟩
  · rw [if_neg hw] at hs ⊢
    exact conv _ _ hs

/-- one alone may come up -/
theorem SA.one (i : Nat) {o : Oper} (hi : ops[i]? = some o) (hr : Region.ready .any ops listed = [i]) (hlt : Nat.blt i nh = true) (h : SW P n ops (.eff (SAQ P n ops Q nh tl f (listed.setIfInBounds i true) w)) [o] L w) : SA P n ops Q nh tl (f + 1) listed L w :=
  ⟨fun a ha inv => ⟨by rw [hr]; simp, fun j hj => by
    have hlt' : i < nh := by simpa using hlt
    have hji : j = i := by rw [hr] at hj; simpa using hj
    subst hji
    exact ⟨hlt', SA.stepOf hi hj hlt' ha inv h⟩⟩⟩

/-- one of two may come up -/
theorem SA.two (i k : Nat) {o o' : Oper} (hi : ops[i]? = some o) (hk : ops[k]? = some o') (hr : Region.ready .any ops listed = [i, k]) (hlt : Nat.blt i nh = true) (hlt' : Nat.blt k nh = true)
    (h : SW P n ops (.eff (SAQ P n ops Q nh tl f (listed.setIfInBounds i true) w)) [o] L w) (h' : SW P n ops (.eff (SAQ P n ops Q nh tl f (listed.setIfInBounds k true) w)) [o'] L w) : SA P n ops Q nh tl (f + 1) listed L w :=
  ⟨fun a ha inv => ⟨by rw [hr]; simp, fun j hj => by
    have hlt1 : i < nh := by simpa using hlt
    have hlt2 : k < nh := by simpa using hlt'
    have hj' := hj
    rw [hr] at hj'
    simp only [List.mem_cons, List.not_mem_nil, or_false] at hj'
    rcases hj' with rfl | rfl
    · exact ⟨hlt1, SA.stepOf hi hj hlt1 ha inv h⟩
    · exact ⟨hlt2, SA.stepOf hk hj hlt2 ha inv h'⟩⟩⟩

/-- one of three may come up -/
theorem SA.three (i k m : Nat) {o o' o'' : Oper} (hi : ops[i]? = some o) (hk : ops[k]? = some o') (hm : ops[m]? = some o'') (hr : Region.ready .any ops listed = [i, k, m]) (hlt : Nat.blt i nh = true) (hlt' : Nat.blt k nh = true) (hlt'' : Nat.blt m nh = true)
    (h : SW P n ops (.eff (SAQ P n ops Q nh tl f (listed.setIfInBounds i true) w)) [o] L w) (h' : SW P n ops (.eff (SAQ P n ops Q nh tl f (listed.setIfInBounds k true) w)) [o'] L w)
    (h'' : SW P n ops (.eff (SAQ P n ops Q nh tl f (listed.setIfInBounds m true) w)) [o''] L w) : SA P n ops Q nh tl (f + 1) listed L w :=
  ⟨fun a ha inv => ⟨by rw [hr]; simp, fun j hj => by
    have hlt1 : i < nh := by simpa using hlt
    have hlt2 : k < nh := by simpa using hlt'
    have hlt3 : m < nh := by simpa using hlt''
    have hj' := hj
    rw [hr] at hj'
    simp only [List.mem_cons, List.not_mem_nil, or_false] at hj'
    rcases hj' with rfl | rfl | rfl
    · exact ⟨hlt1, SA.stepOf hi hj hlt1 ha inv h⟩
    · exact ⟨hlt2, SA.stepOf hk hj hlt2 ha inv h'⟩
    · exact ⟨hlt3, SA.stepOf hm hj hlt3 ha inv h''⟩⟩⟩

/-- back from one operation of the head -/
theorem Post.sa {l : Array Bool} {w0 : World} (hx : Ext w0 w) (h : SA P n ops Q nh tl f l L w) : Post n (SAQ P n ops Q nh tl f l w0) .normal L w := ⟨fun a ha => ⟨hx, h.out a ha⟩⟩

/-- the head is done -/
theorem SA.done (hq : Region.seqB .any ops tl.length nh listed = true) (h : SW P n ops (.eff (NoPanic Q)) tl L w) : SA P n ops Q nh tl 0 listed L w := ⟨fun a ha _ => ⟨hq, h.out a ha⟩⟩
theorem Post.np (h : Post n Q .normal L w) : Post n (NoPanic Q) .normal L w := ⟨fun a ha => h.out a ha⟩

theorem CW.any {id : Nat} {l : List Oper} (nh : Nat) (hm : P.follows .mixedOrders = true) (hB : RB l.toArray nh) (hle : Nat.ble nh l.length = true) (h : ∀ w', Ext w w' → RB l.toArray nh → SA P n l.toArray Q nh (l.drop nh) nh (Array.replicate l.length false) L w') : CW P n (.region id l.toArray true) Q L w :=
  ⟨fun a ha => by
    have hle' : nh ≤ l.length := by simpa using hle
    refine wp_region_noPanic (wp_region_any hm ?_)
    have h0 := (h _ (Ext.drew w) hB).out a ha ⟨by simp, fun j oj _ hl => (by rw [getD_replicate_false] at hl; cases hl), fun t _ ht => getD_in (by simpa using ht) (getD_replicate_false _ _)⟩
    have := wpAny_of_hd (g := (l.drop nh).length) (fun listed a w hk => wpAny_of_seq (md := .any) (l.drop nh) nh listed a w (fun j => by simp [List.getElem?_drop]) hk.1 hk.2) _ _ _ _ h0
    rw [show nh + (l.drop nh).length = l.toArray.size by simp; omega] at this
    simpa using this⟩
end
end Go.Proofs.YtfommgdbahemfaaDoor
