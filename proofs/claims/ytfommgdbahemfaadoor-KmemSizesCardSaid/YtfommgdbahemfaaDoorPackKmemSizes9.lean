/-
  Plain law: a block that was given away comes back to a heap (P4.6).
-/
import Derived.Test.YtfommgdbahemfaaDoorPackKmemSizes8
import Derived.Test.YtfommgdbahemfaaDoorPackKmemSizes6
set_option linter.unusedVariables false
namespace Go.Proofs.YtfommgdbahemfaaDoor

/-! lists by processor, zone and type -/
def keyEq (a b : PList) : Prop := a.Cpu = b.Cpu ∧ a.Zone = b.Zone ∧ a.Ty = b.Ty
instance (a b : PList) : Decidable (keyEq a b) := inferInstanceAs (Decidable (_ ∧ _))
def LsS (L : List PList) : Prop := L.Pairwise aheadL
theorem ahead_trans {a b c : PList} (h1 : aheadL a b) (h2 : aheadL b c) : aheadL a c := by unfold aheadL at *; omega
theorem ahead_tri (a b : PList) : aheadL a b ∨ keyEq a b ∨ aheadL b a := by unfold aheadL keyEq; omega
theorem ahead_not {a b : PList} (h : aheadL a b) : ¬ keyEq a b ∧ ¬ keyEq b a ∧ ¬ aheadL b a := by unfold aheadL keyEq at *; omega
theorem lists_sorted {c t : Int} {L : List PList} (h : ListsOk c t L) : LsS L := by
  have key : ∀ (d i : Nat) (hj : i + d + 1 < L.length), aheadL (L[i]'(by omega)) L[i + d + 1] := by
    intro d
    induction d with
    | zero => intro i hj; exact h.next i hj
    | succ d ih => intro i hj; exact ahead_trans (ih i (by omega)) (h.next (i + d + 1) (by omega))
  unfold LsS
  rw [List.pairwise_iff_getElem]
  intro i j hi hj hij
  have := key (j - i - 1) i (by omega)
  have e : i + (j - i - 1) + 1 = j := by omega
  simp only [e] at this
  exact this
theorem LsS.get {L : List PList} (h : LsS L) {i j : Nat} (hj : j < L.length) (hij : i < j) : aheadL (L[i]'(Nat.lt_trans hij hj)) L[j] := by
  unfold LsS at h
  rw [List.pairwise_iff_getElem] at h
  exact h i j (by omega) hj hij
/-- the place of a list, or where it would be -/
def kpos (L : List PList) (x : PList) : Nat := L.findIdx fun l => !decide (aheadL l x)
theorem kpos_le (L : List PList) (x : PList) : kpos L x ≤ L.length := List.findIdx_le_length
theorem kpos_below {L : List PList} {x : PList} {k : Nat} (hk : k < kpos L x) : aheadL (L[k]'(Nat.lt_of_lt_of_le hk (kpos_le L x))) x := by
  have := List.not_of_lt_findIdx hk
  simpa using this
theorem kpos_at {L : List PList} {x : PList} (h : kpos L x < L.length) : ¬ aheadL (L[kpos L x]) x := by
  have := List.findIdx_getElem (w := h)
  exact of_decide_eq_false (by rw [Bool.not_eq_true'] at this; exact this)
theorem kpos_spec {L : List PList} {x : PList} {i : Nat} (hi : i ≤ L.length) (h1 : ∀ (k : Nat) (h : k < L.length), k < i → aheadL L[k] x) (h2 : ∀ h : i < L.length, ¬ aheadL L[i] x) : kpos L x = i := by
  unfold kpos
  by_cases h : i < L.length
  · exact (List.findIdx_eq h).2 ⟨by simpa using h2 h, fun j hj => by simpa using h1 j (by omega) hj⟩
  · have e : i = L.length := by omega
    subst e
    rw [List.findIdx_eq_length]
    intro y hy
    obtain ⟨k, hk, rfl⟩ := List.getElem_of_mem hy
    simpa using h1 k hk hk
def khere (L : List PList) (x : PList) : Bool := if h : kpos L x < L.length then decide (keyEq L[kpos L x] x) else false
theorem khere_t {L : List PList} {x : PList} (h : khere L x = true) : ∃ hk : kpos L x < L.length, keyEq L[kpos L x] x := by
  unfold khere at h
  split at h
  · rename_i hk; exact ⟨hk, of_decide_eq_true h⟩
  · cases h
theorem khere_f {L : List PList} {x : PList} (h : khere L x = false) (hk : kpos L x < L.length) : aheadL x L[kpos L x] := by
  unfold khere at h
  rw [dif_pos hk] at h
  have h1 := of_decide_eq_false h
  have h2 := kpos_at hk
  rcases ahead_tri L[kpos L x] x with e | e | e
  · exact absurd e h2
  · exact absurd e h1
  · exact e
theorem key_at {L : List PList} (hs : LsS L) {x : PList} {k : Nat} (hk : k < L.length) (h : keyEq L[k] x) : kpos L x = k ∧ khere L x = true := by
  have e : kpos L x = k := kpos_spec (by omega) (fun j hj hjk => by have := hs.get hk hjk; unfold aheadL keyEq at *; omega) (fun _ => by unfold aheadL keyEq at *; omega)
  refine ⟨e, ?_⟩
  unfold khere
  simp only [e, dif_pos hk]
  exact decide_eq_true h
theorem key_none {L : List PList} {x : PList} (h : ∀ (k : Nat) (hk : k < L.length), ¬ keyEq L[k] x) : khere L x = false := by
  cases e : khere L x with
  | false => rfl
  | true => obtain ⟨hk, h1⟩ := khere_t e; exact absurd h1 (h _ hk)
theorem kpos_key {L : List PList} {x y : PList} (h : keyEq x y) : kpos L x = kpos L y ∧ khere L x = khere L y := by
  have e : (fun l => !decide (aheadL l x)) = (fun l : PList => !decide (aheadL l y)) := by
    funext l
    have : aheadL l x ↔ aheadL l y := by unfold aheadL keyEq at *; omega
    simp [this]
  have e1 : kpos L x = kpos L y := by unfold kpos; rw [e]
  refine ⟨e1, ?_⟩
  unfold khere
  simp only [e1]
  split
  · have : keyEq L[kpos L y] x ↔ keyEq L[kpos L y] y := by unfold keyEq at *; omega
    simp [this]
  · rfl
def setL (L : List PList) (x : PList) : List PList := if khere L x then L.set (kpos L x) x else insAt L (kpos L x) x
theorem setL_t {L : List PList} {x : PList} (h : khere L x = true) : setL L x = L.set (kpos L x) x := by rw [setL, if_pos h]
theorem setL_f {L : List PList} {x : PList} (h : khere L x = false) : setL L x = insAt L (kpos L x) x := by rw [setL, if_neg (by simp [h])]
def pagesAt (L : List PList) (x : PList) : List Int := if khere L x then (L.getD (kpos L x) x).Pages else []
theorem pagesAt_t {L : List PList} {x : PList} (h : khere L x = true) (hk : kpos L x < L.length) : pagesAt L x = L[kpos L x].Pages := by
  rw [pagesAt, if_pos h, List.getD_eq_getElem?_getD, List.getElem?_eq_getElem hk]; rfl
theorem pagesAt_f {L : List PList} {x : PList} (h : khere L x = false) : pagesAt L x = [] := by rw [pagesAt, if_neg (by simp [h])]
theorem length_insAt {α : Type} (l : List α) {i : Nat} (h : i ≤ l.length) (x : α) : (insAt l i x).length = l.length + 1 := by simp [insAt]; omega
theorem insAt_lt {α : Type} {l : List α} {i : Nat} (h : i ≤ l.length) {x : α} {k : Nat} (hk : k < i) : (insAt l i x)[k]? = l[k]? := by
  unfold insAt
  rw [List.append_assoc, List.getElem?_append_left (by simp; omega), List.getElem?_take_of_lt hk]
theorem insAt_eq {α : Type} {l : List α} {i : Nat} (h : i ≤ l.length) {x : α} : (insAt l i x)[i]? = some x := by
  unfold insAt
  rw [List.append_assoc, List.getElem?_append_right (by simp; omega)]
  have : i - (l.take i).length = 0 := by simp; omega
  rw [this]; rfl
theorem insAt_gt {α : Type} {l : List α} {i : Nat} (h : i ≤ l.length) {x : α} {k : Nat} (hk : i ≤ k) : (insAt l i x)[k + 1]? = l[k]? := by
  unfold insAt
  rw [List.append_assoc, List.getElem?_append_right (by simp; omega)]
  have : k + 1 - (l.take i).length = (k - i) + 1 := by simp; omega
  rw [this, List.singleton_append, List.getElem?_cons_succ, List.getElem?_drop]
  congr 1
  omega
theorem set_insAt {α : Type} {l : List α} {i : Nat} (h : i ≤ l.length) (x y : α) : (insAt l i x).set i y = insAt l i y := by
  unfold insAt
  rw [List.append_assoc, List.append_assoc, List.set_append_right _ _ (by simp; omega)]
  have : i - (l.take i).length = 0 := by simp; omega
  rw [this]; rfl
/-- the list that was set is found there -/
theorem setL_get {L : List PList} {x : PList} : (setL L x)[kpos L x]? = some x := by
  cases h : khere L x
  · rw [setL_f h]; exact insAt_eq (kpos_le L x)
  · obtain ⟨hk, _⟩ := khere_t h
    rw [setL_t h, List.getElem?_set_self hk]
theorem setL_pos {L : List PList} {x : PList} : kpos (setL L x) x = kpos L x ∧ khere (setL L x) x = true := by
  have hg := setL_get (L := L) (x := x)
  obtain ⟨hk, hx⟩ := List.getElem?_eq_some_iff.1 hg
  have e : kpos (setL L x) x = kpos L x := by
    refine kpos_spec (by omega) (fun j hj hjk => ?_) (fun _ => ?_)
    · have h0 := kpos_below (L := L) (x := x) hjk
      have e1 : (setL L x)[j]? = L[j]? := by
        cases h : khere L x
        · rw [setL_f h]; exact insAt_lt (kpos_le L x) hjk
        · rw [setL_t h, List.getElem?_set_ne (by omega)]
      rw [List.getElem?_eq_getElem hj, List.getElem?_eq_getElem (Nat.lt_of_lt_of_le hjk (kpos_le L x))] at e1
      injection e1 with e1
      rw [e1]; exact h0
    · rw [hx]; unfold aheadL; omega
  refine ⟨e, ?_⟩
  unfold khere
  simp only [e, dif_pos hk, hx]
  exact decide_eq_true ⟨rfl, rfl, rfl⟩
theorem setL_set {L : List PList} {x y : PList} (h : keyEq x y) : (setL L x).set (kpos L x) y = setL L y := by
  obtain ⟨e1, e2⟩ := kpos_key (L := L) h
  cases hh : khere L x
  · rw [setL_f hh, setL_f (by rw [← e2]; exact hh), set_insAt (kpos_le L x), e1]
  · rw [setL_t hh, setL_t (by rw [← e2]; exact hh), List.set_set, e1]
/-- the reference's lists, one by one -/
def setPre (L : List PList) (x : PList) (k : Nat) : List PList := if k ≤ kpos L x then L.take k else if khere L x then (L.set (kpos L x) x).take k else (insAt L (kpos L x) x).take (k + 1)
theorem take_get {α : Type} {l : List α} {k : Nat} {x : α} (h : l[k]? = some x) : l.take (k + 1) = l.take k ++ [x] := by
  obtain ⟨hk, rfl⟩ := List.getElem?_eq_some_iff.1 h
  exact List.take_succ_eq_append_getElem hk
theorem setPre_low {L : List PList} {x : PList} {k : Nat} (hk : k < kpos L x) : setPre L x (k + 1) = setPre L x k ++ [L[k]'(Nat.lt_of_lt_of_le hk (kpos_le L x))] := by
  have := kpos_le L x
  rw [setPre, if_pos (by omega), setPre, if_pos (by omega)]
  exact List.take_succ_eq_append_getElem (by omega)
theorem setPre_here {L : List PList} {x : PList} {k : Nat} (hk : k = kpos L x) (hh : khere L x = true) : setPre L x (k + 1) = setPre L x k ++ [x] := by
  obtain ⟨hl, _⟩ := khere_t hh
  subst hk
  rw [setPre, if_neg (by omega), if_pos hh, setPre, if_pos (Nat.le_refl _), take_get (x := x) (List.getElem?_set_self hl), List.take_set_of_le (Nat.le_refl _)]
theorem setPre_in {L : List PList} {x : PList} {k : Nat} (hk : k = kpos L x) (hl : k < L.length) (hh : khere L x = false) : setPre L x (k + 1) = setPre L x k ++ [x] ++ [L[k]] := by
  subst hk
  have hle := kpos_le L x
  rw [setPre, if_neg (by omega), if_neg (by simp [hh]), setPre, if_pos (Nat.le_refl _), take_get (x := L[kpos L x]) (by rw [insAt_gt hle (Nat.le_refl _), List.getElem?_eq_getElem hl]), take_get (insAt_eq hle)]
  congr 2
  unfold insAt
  rw [List.append_assoc, List.take_append_of_le_length (by simp; omega), List.take_take, Nat.min_self]
theorem setPre_high {L : List PList} {x : PList} {k : Nat} (hk : kpos L x < k) (hl : k < L.length) : setPre L x (k + 1) = setPre L x k ++ [L[k]] := by
  have hle := kpos_le L x
  rw [setPre, if_neg (show ¬ k + 1 ≤ kpos L x by omega), setPre, if_neg (show ¬ k ≤ kpos L x by omega)]
  cases hh : khere L x
  · simp only [Bool.false_eq_true, if_false]
    exact take_get (by rw [insAt_gt hle (by omega), List.getElem?_eq_getElem hl])
  · simp only [if_true]
    exact take_get (by rw [List.getElem?_set_ne (by omega), List.getElem?_eq_getElem hl])
theorem setPre_done {L : List PList} {x : PList} (hk : kpos L x < L.length) : setPre L x L.length = setL L x := by
  rw [setPre, if_neg (by omega), setL]
  split
  · exact List.take_of_length_le (by simp)
  · exact List.take_of_length_le (by rw [length_insAt _ (kpos_le L x)]; omega)
theorem setPre_last {L : List PList} {x : PList} (hk : ¬ kpos L x < L.length) : setPre L x L.length ++ [x] = setL L x := by
  have hle := kpos_le L x
  have e : kpos L x = L.length := by omega
  have hf : khere L x = false := by unfold khere; rw [dif_neg hk]
  rw [setPre, if_pos (by omega), setL_f hf, e, insAt]
  simp
end Go.Proofs.YtfommgdbahemfaaDoor

/-
  Contracts: buddy.Check and its reference; the law BuddyChecks.
-/
set_option linter.unusedVariables false
namespace Go.Proofs.YtfommgdbahemfaaDoor
open Go.RowKit

def oddB (t : Int) : Bool := !decide (tyOk t)
theorem oddB_f {t : Int} (h : tyOk t) : oddB t = false := by simp [oddB, h]
theorem oddB_t {t : Int} (h : ¬ tyOk t) : oddB t = true := by simp [oddB, h]
theorem Zodd_ans (t : Int) (w : World) : Ans Tryd.prog 53 ([.int .i64 t] ++ []) w fun v _ => v = .bool (oddB t) := by
  refine ans_of Tryd.func53 rfl Tryd.ntmps53 rfl ?_
  have hw := Ext.refl w
  by_cases h1 : 0 ≤ t
  · by_cases h2 : t ≤ 2
    · rw [oddB_f ⟨h1, h2⟩]
      repeat' (first | (show CW _ _ _ _ _ _; first | refine CW.seq ?_ | refine CW.region ?_ | refine CW.ret ?_) | (show Post _ _ _ _ _; refine Post.seq ?_) | refine SW.nil ?_ | (show SW _ _ _ _ (⟨_, _, _, _, _, some _⟩ :: _) _ _; first | refine SW.want_f rfl rfl (by with_reducible rfl) ?_ | refine SW.splitd_f rfl rfl rfl (by omega) ?_) | refine SW.pure rfl rfl ?_)
      all_goals exact Post.ret1 rfl rfl ⟨_, rfl, hw, by simp; try omega⟩
    · rw [oddB_t (fun h => h2 h.2)]
      repeat' (first | (show CW _ _ _ _ _ _; first | refine CW.seq ?_ | refine CW.region ?_ | refine CW.ret ?_) | (show Post _ _ _ _ _; refine Post.seq ?_) | refine SW.nil ?_ | (show SW _ _ _ _ (⟨_, _, _, _, _, some _⟩ :: _) _ _; first | refine SW.want_f rfl rfl (by with_reducible rfl) ?_ | refine SW.splitd_f rfl rfl rfl (by omega) ?_) | refine SW.pure rfl rfl ?_)
      all_goals exact Post.ret1 rfl rfl ⟨_, rfl, hw, by simp; try omega⟩
  · rw [oddB_t (fun h => h1 h.1)]
    repeat' (first | (show CW _ _ _ _ _ _; first | refine CW.seq ?_ | refine CW.region ?_ | refine CW.ret ?_) | (show Post _ _ _ _ _; refine Post.seq ?_) | refine SW.nil ?_ | (show SW _ _ _ _ (⟨_, _, _, _, _, some _⟩ :: _) _ _; first | refine SW.skip_f rfl rfl (by with_reducible rfl) rfl ?_ | refine SW.splitd_t rfl rfl rfl (by omega) ?_) | refine SW.pure rfl rfl ?_)
    all_goals exact Post.ret1 rfl rfl ⟨_, rfl, hw, by simp; try omega⟩

set_option maxHeartbeats 4000000 in
theorem Zcheck_ans (r : ZRow) (z : Zone) (w : World) (hr : RdZ w r z) (hf : r.Free.n ≤ 2305843009213693952) (ht : r.Types.n ≤ 2305843009213693952) (h1 : -9223372036854775808 ≤ r.From ∧ r.From ≤ 9223372036854775807) (h2 : -9223372036854775808 ≤ r.To ∧ r.To ≤ 9223372036854775807) :
    Ans Tryd.prog 18 [.agg (encZ r).toArray] w fun v _ => v = .int .i64 (if zoneB z then 0 else 8) := by
  refine ans_of Tryd.func18 rfl Tryd.ntmps18 rfl ?_
  refine CW.seq (CW.region (SW.box rfl rfl fun b1 w1 hw hb1b hb1 => ?_))
  have eF := hr.from_
  have eT := hr.to_
  have hFl := hr.free.len
  have hTl := hr.types.len
  repeat' (first | (show CW _ _ _ _ _ _; first | refine CW.seq ?_ | refine CW.region ?_) | (show Post _ _ _ _ _; refine Post.seq ?_) | refine SW.nil ?_ | refine SW.pure rfl rfl ?_ | (show SW _ _ _ _ (⟨_, Op.fieldAddr _ _ _, _, _, _, none⟩ :: _) _ _; refine SW.st (st_field rfl) rfl ?_) | (show SW _ _ _ _ (⟨_, Op.load _ _, _, _, _, none⟩ :: _) _ _; refine SW.st (st_load rfl (hb1.cell rfl)) rfl ?_))
  refine SW.call rfl rfl (Znew_ans r.From r.To _ h1 h2) fun v w2 hw2 hv => ?_
  (replace hw := Ext.trans hw hw2; replace hb1 := hb1.ext hw2)
  by_cases hok : zoneOk r.From r.To
  · rw [zoneNewV_t hok] at hv
    obtain ⟨s, rfl, hs⟩ := hv
    obtain ⟨o1, o2, o3, o4, o5⟩ := id hok
    have hno : ∀ {p : Prop}, (ZoneMay z → False) → p ∨ ¬ ZoneMay z := fun h => .inr h
    by_cases hl8 : 8 * (z.Types.length : Int) = z.To - z.From
    · repeat' (refine SW.pure rfl rfl ?_)
      refine SW.alloc rfl fun b3 w1 hw1 hb3b hb3 => ?_
      have hb3w : w.heap.size ≤ b3 := Nat.le_trans hw.size hb3b
      have hne_b1 : b1 ≠ b3 := by have := hb1.lt; omega
      replace hw := Ext.trans hw hw1
      replace hb1 := hb1.ext hw1
      replace hs := hs.ext hw1
      refine SW.storeAgg hb3 rfl rfl rfl rfl (one_z _) fun w2 hb3' hg => ?_
      replace hw := hw.own hb3w hg
      replace hs := hs.blk hb3 hg rfl rfl
      replace hb1 := hb1.grown hg (by simpa using hne_b1)
      replace hb3 := hb3'
      clear hb3' hw1 hg hb3b
      have cO : ∀ w', Ext w w' → Ans Tryd.prog 54 [.slice r.Types.A r.Types.n r.Types.c, .func (.func 53) #[] ([] : List Value).toArray] w' fun v _ => v = .bool (z.Types.any oddB) := fun w' h =>
        ContainsFuncInt_ans _ _ _ _ _ (hr.types.ext h) _ [] oddB (fun x => .int .i64 x) (fun x => rfl) (fun x _ w1 _ => Zodd_ans x w1) (by omega)
      cases hodd : z.Types.any oddB
      · rw [hodd] at cO
        have hty : ∀ t ∈ z.Types, tyOk t := fun t htt => by
          rw [List.any_eq_false] at hodd
          have := hodd t htt
          simp [oddB] at this
          exact this
        repeat' (first | (show CW _ _ _ _ _ _; first | refine CW.seq ?_ | refine CW.region ?_ | refine CW.block ?_ | refine CW.condfr rfl (by with_reducible rfl) ?_ | refine CW.condn_f rfl (by omega) ?_ | refine CW.skip ?_) | (show Post _ _ _ _ _; refine Post.seq ?_) | refine SW.nil ?_ | (show SW _ _ _ _ (⟨_, _, _, _, _, some _⟩ :: _) _ _; first | refine SW.want_f rfl rfl (by with_reducible rfl) ?_ | refine SW.splitn_f rfl rfl rfl (by omega) ?_) | refine SW.pure rfl rfl ?_ | (show SW _ _ _ _ (⟨_, Op.fieldAddr _ _ _, _, _, _, none⟩ :: _) _ _; refine SW.st (st_field rfl) rfl ?_) | (show SW _ _ _ _ (⟨_, Op.binOp _ _ _ _ _, _, _, _, none⟩ :: _) _ _; first | refine SW.st (st_sub rfl rfl (by omega) (by omega)) rfl ?_ | refine SW.st (st_quo rfl rfl (by omega) (by omega) (by omega)) rfl ?_) | (show SW _ _ _ _ (⟨_, Op.call ⟨.builtin .len, _, _⟩, _, _, _, none⟩ :: _) _ _; refine SW.st (st_len rfl) rfl ?_) | (show SW _ _ _ _ (⟨_, Op.load _ _, _, _, _, none⟩ :: _) _ _; refine SW.st (st_load rfl (hb1.cell rfl)) rfl ?_) | (show SW _ _ _ _ (⟨_, Op.call ⟨.value (.func _), _, _⟩, _, _, _, none⟩ :: _) _ _; (refine SW.call rfl rfl (cO _ hw) ?_; intro v w1 hw1 hv; subst hv; replace hw := Ext.trans hw hw1; replace hb1 := hb1.ext hw1; clear hw1)))
        refine CW.loop (fun k : Nat => [(1, .pointer (some ⟨b1, 0, none⟩)), (5, .func (.func 53) #[] #[]), (35, .slice r.Free.A r.Free.n r.Free.c), (36, .int .i64 (r.Free.n : Int)), (37, .int .i64 (k : Int))])
          (fun k w' => k ≤ r.Free.n ∧ Ext w w' ∧ Blk w' b1 25 (encZ r) ∧ (∀ (i : Nat) (h : i < z.Free.length), i < k → blkOk z.From z.To z.Free[i]) ∧ (∀ (i : Nat) (h : i + 1 < z.Free.length), i + 1 < k → nextOk z.Free[i] z.Free[i + 1]))
          (fun k => r.Free.n - k) 0 ⟨rfl, rfl, rfl, rfl, rfl, trivial⟩ ⟨by omega, hw, hb1, fun i h hi => by omega, fun i h hi => by omega⟩ ?_
        clear hw hb1 hb3 cO hs
        rintro k w' ⟨hk, hw, hb1, hI, hN⟩
        have hA := hr.free.base
        by_cases hkn : k < r.Free.n
        · have hkl := hr.free.lt hkn
          repeat' (first | (show CW _ _ _ _ _ _; first | refine CW.seq ?_ | refine CW.region ?_ | refine CW.block ?_ | refine CW.condd_t rfl (by omega) ?_ | refine CW.skip ?_) | (show Post _ _ _ _ _; refine Post.seq ?_) | refine SW.nil ?_ | refine SW.pure rfl rfl ?_ | (show SW _ _ _ _ (⟨_, Op.indexAddr _ _ _, _, _, _, none⟩ :: _) _ _; refine SW.st (st_indexN rfl rfl (by assumption) (by omega)) rfl ?_) | (show SW _ _ _ _ (⟨_, Op.load _ _, _, _, _, none⟩ :: _) _ _; refine SW.st (st_loadsx hw rfl rfl ((hr.free.all hkn))) rfl ?_))
          refine SW.alloc rfl fun b7 w3 hw3 hb7b hb7 => ?_
          have hb7w : w.heap.size ≤ b7 := Nat.le_trans hw.size hb7b
          have hne : b1 ≠ b7 := by have := hb1.lt; omega
          (replace hw := Ext.trans hw hw3; replace hb1 := hb1.ext hw3)
          repeat' (refine SW.pure rfl rfl ?_)
          refine SW.storeAgg hb7 rfl rfl rfl rfl (Enc.one (enc := encBk) _) fun w4 hb7' hg => ?_
          replace hw := hw.own hb7w hg
          replace hb1 := hb1.grown hg (by simpa using hne)
          by_cases hbk : blkOk z.From z.To z.Free[k]
          · obtain ⟨hfz, hty'⟩ := id hbk
            obtain ⟨f1, f2, f3, f4, f5⟩ := id hfz
            have hp := pw_le f1 f2
            have cF : ∀ w', Ext w w' → Ans Tryd.prog 55 [.agg (encZ r).toArray, .agg (encBk z.Free[k]).toArray] w' fun v _ => v = .bool true := fun w' _ => by
              have := Zfits_ans r z.Free[k] w' (by omega)
              rwa [eF, eT, decide_eq_true hfz] at this
            have cD : ∀ w', Ans Tryd.prog 53 ([.int .i64 (z.Free[k]).Ty] ++ []) w' fun v _ => v = .bool false := fun w' => by
              have := Zodd_ans (z.Free[k]).Ty w'
              rwa [oddB_f hty'] at this
            by_cases hk0 : k = 0
            · subst hk0
              repeat' (first | (show CW _ _ _ _ _ _; first | refine CW.seq ?_ | refine CW.region ?_ | refine CW.condfr rfl (by with_reducible rfl) ?_ | refine CW.skip ?_ | (apply CW.quiet1 mixed; (· kernel_rfl); rotate_left; intro w1 hw1; replace hw := Ext.trans hw hw1; replace hb1 := hb1.ext hw1; replace hb7' := hb7'.ext hw1; clear hw1; rotate_right)) | (show Post _ _ _ _ _; first | refine Post.seq ?_ | refine Post.blk ?_) | refine SW.nil ?_ | (show SW _ _ _ _ (⟨_, _, _, _, _, some _⟩ :: _) _ _; first | refine SW.want_f rfl rfl (by with_reducible rfl) ?_ | refine SW.skip_t rfl rfl (by with_reducible rfl) rfl ?_ | refine SW.splitd_f rfl rfl rfl (by omega) ?_ | refine SW.want rfl rfl ?_) | refine SW.pure rfl rfl ?_ | (show SW _ _ _ _ (⟨_, Op.fieldAddr _ _ _, _, _, _, none⟩ :: _) _ _; refine SW.st (st_field rfl) rfl ?_) | (show SW _ _ _ _ (⟨_, Op.binOp _ _ _ _ _, _, _, _, none⟩ :: _) _ _; refine SW.st (st_add rfl rfl (by omega) (by omega)) rfl ?_) | (show SW _ _ _ _ (⟨_, Op.load _ _, _, _, _, none⟩ :: _) _ _; first | refine SW.st (st_loads rfl rfl ((fun _ _ => hb1.cell))) rfl ?_ | refine SW.st (st_loads rfl rfl ((fun _ _ => hb7'.cell))) rfl ?_ | refine SW.st (st_load rfl (hb7'.cell rfl)) rfl ?_) | (show SW _ _ _ _ (⟨_, Op.call ⟨.value (.func _), _, _⟩, _, _, _, none⟩ :: _) _ _; refine SW.qcall rfl rfl (fun w1 hw1 => (cF _ (Ext.trans hw hw1))) ?_) | (refine SW.qcallv rfl rfl rfl (fun w1 _ => cD w1) ?_) | exact SW.qnil rfl)
              refine Post.again (0 + 1) ⟨rfl, rfl, rfl, rfl, rfl, trivial⟩ (by omega) ⟨by omega, hw, hb1, fun i h hi => ?_, fun i h hi => by omega⟩
              obtain rfl : i = 0 := by omega
              exact hbk
            · obtain ⟨j, rfl⟩ : ∃ j, k = j + 1 := ⟨k - 1, by omega⟩
              have hj : j < r.Free.n := by omega
              have hjl := hr.free.lt hj
              obtain ⟨⟨g1, g2, g3, g4, g5⟩, _⟩ := hI j hjl (by omega)
              have cE : ∀ w', Ans Tryd.prog 23 [.agg (encBk z.Free[j]).toArray] w' fun v _ => v = .int .i64 ((z.Free[j]).At + pw (z.Free[j]).Order) := fun w' => Zend_ans _ _ ⟨g1, g2⟩ ⟨by omega, by omega⟩
              by_cases hlt : (z.Free[j]).At + pw (z.Free[j]).Order ≤ (z.Free[j + 1]).At
              · by_cases hbu : (z.Free[j + 1]).Order < 4 ∧ (z.Free[j]).Order = (z.Free[j + 1]).Order ∧ (z.Free[j]).At = beside (z.Free[j + 1]).At (z.Free[j + 1]).Order
                · obtain ⟨u1, u2, u3⟩ := id hbu
                  repeat' (first | (show CW _ _ _ _ _ _; first | refine CW.seq ?_ | refine CW.region ?_ | refine CW.condd_t rfl (by omega) ?_ | refine CW.condd_f rfl (by omega) ?_ | refine CW.skip ?_ | refine CW.ret ?_ | (apply CW.quiet1 mixed; (· kernel_rfl); rotate_left; intro w1 hw1; replace hw := Ext.trans hw hw1; replace hb1 := hb1.ext hw1; replace hb7' := hb7'.ext hw1; clear hw1; rotate_right)) | (show Post _ _ _ _ _; first | refine Post.seq ?_ | refine Post.seq_ret ?_ | refine Post.blk_ret ?_ | refine Post.again_ret ?_) | refine SW.nil ?_ | (show SW _ _ _ _ (⟨_, _, _, _, _, some _⟩ :: _) _ _; first | refine SW.want_t rfl rfl (by with_reducible rfl) ?_ | refine SW.want_f rfl rfl (by with_reducible rfl) ?_ | refine SW.splitd_t rfl rfl rfl (by omega) ?_ | refine SW.splitd_f rfl rfl rfl (by omega) ?_) | refine SW.pure rfl rfl ?_ | (show SW _ _ _ _ (⟨_, Op.fieldAddr _ _ _, _, _, _, none⟩ :: _) _ _; refine SW.st (st_field rfl) rfl ?_) | (show SW _ _ _ _ (⟨_, Op.binOp _ _ _ _ _, _, _, _, none⟩ :: _) _ _; refine SW.st (st_sub rfl rfl (by omega) (by omega)) rfl ?_) | (show SW _ _ _ _ (⟨_, Op.indexAddr _ _ _, _, _, _, none⟩ :: _) _ _; refine SW.st (st_indexI (j) rfl rfl (by assumption) (by omega) (by omega)) rfl ?_) | (show SW _ _ _ _ (⟨_, Op.load _ _, _, _, _, none⟩ :: _) _ _; first | refine SW.st (st_loads rfl rfl ((fun _ _ => hb1.cell))) rfl ?_ | refine SW.st (st_loads rfl rfl ((fun _ _ => hb7'.cell))) rfl ?_ | refine SW.st (st_load rfl (hb7'.cell rfl)) rfl ?_ | refine SW.st (st_load rfl (hb1.cell rfl)) rfl ?_ | refine SW.st (st_loadsx hw rfl rfl ((hr.free.all hj))) rfl ?_ | refine SW.st (st_loadx hw rfl (hr.free.fld hj rfl)) rfl ?_) | (show SW _ _ _ _ (⟨_, Op.call ⟨.value (.func _), _, _⟩, _, _, _, none⟩ :: _) _ _; first | refine SW.qcall rfl rfl (fun w1 hw1 => (cF _ (Ext.trans hw hw1))) ?_ | refine SW.qcall rfl rfl (fun w1 hw1 => (cE _)) ?_) | (refine SW.qcallv rfl rfl rfl (fun w1 _ => cD w1) ?_) | (refine SW.st (st_shl (r := pw (z.Free[j + 1]).Order) rfl rfl (by omega) (by omega) (by simp [pw]) (by omega) (by omega)) rfl ?_) | (refine SW.st (st_beside (z.Free[j + 1]).At (z.Free[j + 1]).Order rfl rfl rfl rfl ⟨by omega, by omega, f1, u1, f5⟩) rfl ?_) | exact SW.qnil rfl)
                  refine Post.ret1 rfl rfl ⟨_, rfl, hw, ?_⟩
                  rw [zoneB_f (fun h => (h.next j hkl).2 hbu)]; rfl
                · by_cases u1 : (z.Free[j + 1]).Order < 4
                  · by_cases u2 : (z.Free[j]).Order = (z.Free[j + 1]).Order
                    · have u3 : ¬ (z.Free[j]).At = beside (z.Free[j + 1]).At (z.Free[j + 1]).Order := fun u3 => hbu ⟨u1, u2, u3⟩
                      repeat' (first | (show CW _ _ _ _ _ _; first | refine CW.seq ?_ | refine CW.region ?_ | refine CW.condd_f rfl (by omega) ?_ | refine CW.skip ?_ | (apply CW.quiet1 mixed; (· kernel_rfl); rotate_left; intro w1 hw1; replace hw := Ext.trans hw hw1; replace hb1 := hb1.ext hw1; replace hb7' := hb7'.ext hw1; clear hw1; rotate_right)) | (show Post _ _ _ _ _; first | refine Post.seq ?_ | refine Post.blk ?_) | refine SW.nil ?_ | (show SW _ _ _ _ (⟨_, _, _, _, _, some _⟩ :: _) _ _; first | refine SW.want_t rfl rfl (by with_reducible rfl) ?_ | refine SW.want_f rfl rfl (by with_reducible rfl) ?_ | refine SW.splitd_t rfl rfl rfl (by omega) ?_ | refine SW.want rfl rfl ?_) | refine SW.pure rfl rfl ?_ | (show SW _ _ _ _ (⟨_, Op.fieldAddr _ _ _, _, _, _, none⟩ :: _) _ _; refine SW.st (st_field rfl) rfl ?_) | (show SW _ _ _ _ (⟨_, Op.binOp _ _ _ _ _, _, _, _, none⟩ :: _) _ _; first | refine SW.st (st_add rfl rfl (by omega) (by omega)) rfl ?_ | refine SW.st (st_sub rfl rfl (by omega) (by omega)) rfl ?_) | (show SW _ _ _ _ (⟨_, Op.indexAddr _ _ _, _, _, _, none⟩ :: _) _ _; refine SW.st (st_indexI (j) rfl rfl (by assumption) (by omega) (by omega)) rfl ?_) | (show SW _ _ _ _ (⟨_, Op.load _ _, _, _, _, none⟩ :: _) _ _; first | refine SW.st (st_loads rfl rfl ((fun _ _ => hb1.cell))) rfl ?_ | refine SW.st (st_loads rfl rfl ((fun _ _ => hb7'.cell))) rfl ?_ | refine SW.st (st_load rfl (hb7'.cell rfl)) rfl ?_ | refine SW.st (st_load rfl (hb1.cell rfl)) rfl ?_ | refine SW.st (st_loadsx hw rfl rfl ((hr.free.all hj))) rfl ?_ | refine SW.st (st_loadx hw rfl (hr.free.fld hj rfl)) rfl ?_) | (show SW _ _ _ _ (⟨_, Op.call ⟨.value (.func _), _, _⟩, _, _, _, none⟩ :: _) _ _; first | refine SW.qcall rfl rfl (fun w1 hw1 => (cF _ (Ext.trans hw hw1))) ?_ | refine SW.qcall rfl rfl (fun w1 hw1 => (cE _)) ?_) | (refine SW.qcallv rfl rfl rfl (fun w1 _ => cD w1) ?_) | (refine SW.st (st_shl (r := pw (z.Free[j + 1]).Order) rfl rfl (by omega) (by omega) (by simp [pw]) (by omega) (by omega)) rfl ?_) | (refine SW.st (st_beside (z.Free[j + 1]).At (z.Free[j + 1]).Order rfl rfl rfl rfl ⟨by omega, by omega, f1, u1, f5⟩) rfl ?_) | exact SW.qnil rfl)
                      refine Post.again (j + 1 + 1) ⟨rfl, rfl, rfl, rfl, rfl, trivial⟩ (by omega) ⟨by omega, hw, hb1, fun i h hi => ?_, fun i h hi => ?_⟩
                      · by_cases hij : i = j + 1
                        · subst hij; exact hbk
                        · exact hI i h (by omega)
                      · by_cases hij : i = j
                        · subst hij; exact ⟨hlt, hbu⟩
                        · exact hN i h (by omega)
                    · repeat' (first | (show CW _ _ _ _ _ _; first | refine CW.seq ?_ | refine CW.region ?_ | refine CW.condfr rfl (by with_reducible rfl) ?_ | refine CW.condd_f rfl (by omega) ?_ | refine CW.skip ?_ | (apply CW.quiet1 mixed; (· kernel_rfl); rotate_left; intro w1 hw1; replace hw := Ext.trans hw hw1; replace hb1 := hb1.ext hw1; replace hb7' := hb7'.ext hw1; clear hw1; rotate_right)) | (show Post _ _ _ _ _; first | refine Post.seq ?_ | refine Post.blk ?_) | refine SW.nil ?_ | (show SW _ _ _ _ (⟨_, _, _, _, _, some _⟩ :: _) _ _; first | refine SW.want_t rfl rfl (by with_reducible rfl) ?_ | refine SW.want_f rfl rfl (by with_reducible rfl) ?_ | refine SW.skip_t rfl rfl (by with_reducible rfl) rfl ?_ | refine SW.splitd_t rfl rfl rfl (by omega) ?_ | refine SW.splitd_f rfl rfl rfl (by omega) ?_ | refine SW.want rfl rfl ?_) | refine SW.pure rfl rfl ?_ | (show SW _ _ _ _ (⟨_, Op.fieldAddr _ _ _, _, _, _, none⟩ :: _) _ _; refine SW.st (st_field rfl) rfl ?_) | (show SW _ _ _ _ (⟨_, Op.binOp _ _ _ _ _, _, _, _, none⟩ :: _) _ _; first | refine SW.st (st_add rfl rfl (by omega) (by omega)) rfl ?_ | refine SW.st (st_sub rfl rfl (by omega) (by omega)) rfl ?_) | (show SW _ _ _ _ (⟨_, Op.indexAddr _ _ _, _, _, _, none⟩ :: _) _ _; refine SW.st (st_indexI (j) rfl rfl (by assumption) (by omega) (by omega)) rfl ?_) | (show SW _ _ _ _ (⟨_, Op.load _ _, _, _, _, none⟩ :: _) _ _; first | refine SW.st (st_loads rfl rfl ((fun _ _ => hb1.cell))) rfl ?_ | refine SW.st (st_loads rfl rfl ((fun _ _ => hb7'.cell))) rfl ?_ | refine SW.st (st_load rfl (hb7'.cell rfl)) rfl ?_ | refine SW.st (st_load rfl (hb1.cell rfl)) rfl ?_ | refine SW.st (st_loadsx hw rfl rfl ((hr.free.all hj))) rfl ?_ | refine SW.st (st_loadx hw rfl (hr.free.fld hj rfl)) rfl ?_) | (show SW _ _ _ _ (⟨_, Op.call ⟨.value (.func _), _, _⟩, _, _, _, none⟩ :: _) _ _; first | refine SW.qcall rfl rfl (fun w1 hw1 => (cF _ (Ext.trans hw hw1))) ?_ | refine SW.qcall rfl rfl (fun w1 hw1 => (cE _)) ?_) | (refine SW.qcallv rfl rfl rfl (fun w1 _ => cD w1) ?_) | exact SW.qnil rfl)
                      refine Post.again (j + 1 + 1) ⟨rfl, rfl, rfl, rfl, rfl, trivial⟩ (by omega) ⟨by omega, hw, hb1, fun i h hi => ?_, fun i h hi => ?_⟩
                      · by_cases hij : i = j + 1
                        · subst hij; exact hbk
                        · exact hI i h (by omega)
                      · by_cases hij : i = j
                        · subst hij; exact ⟨hlt, hbu⟩
                        · exact hN i h (by omega)
                  · repeat' (first | (show CW _ _ _ _ _ _; first | refine CW.seq ?_ | refine CW.region ?_ | refine CW.condfr rfl (by with_reducible rfl) ?_ | refine CW.condd_f rfl (by omega) ?_ | refine CW.skip ?_ | (apply CW.quiet1 mixed; (· kernel_rfl); rotate_left; intro w1 hw1; replace hw := Ext.trans hw hw1; replace hb1 := hb1.ext hw1; replace hb7' := hb7'.ext hw1; clear hw1; rotate_right)) | (show Post _ _ _ _ _; first | refine Post.seq ?_ | refine Post.blk ?_) | refine SW.nil ?_ | (show SW _ _ _ _ (⟨_, _, _, _, _, some _⟩ :: _) _ _; first | refine SW.want_t rfl rfl (by with_reducible rfl) ?_ | refine SW.want_f rfl rfl (by with_reducible rfl) ?_ | refine SW.skip_t rfl rfl (by with_reducible rfl) rfl ?_ | refine SW.splitd_t rfl rfl rfl (by omega) ?_ | refine SW.splitd_f rfl rfl rfl (by omega) ?_ | refine SW.want rfl rfl ?_) | refine SW.pure rfl rfl ?_ | (show SW _ _ _ _ (⟨_, Op.fieldAddr _ _ _, _, _, _, none⟩ :: _) _ _; refine SW.st (st_field rfl) rfl ?_) | (show SW _ _ _ _ (⟨_, Op.binOp _ _ _ _ _, _, _, _, none⟩ :: _) _ _; first | refine SW.st (st_add rfl rfl (by omega) (by omega)) rfl ?_ | refine SW.st (st_sub rfl rfl (by omega) (by omega)) rfl ?_) | (show SW _ _ _ _ (⟨_, Op.indexAddr _ _ _, _, _, _, none⟩ :: _) _ _; refine SW.st (st_indexI (j) rfl rfl (by assumption) (by omega) (by omega)) rfl ?_) | (show SW _ _ _ _ (⟨_, Op.load _ _, _, _, _, none⟩ :: _) _ _; first | refine SW.st (st_loads rfl rfl ((fun _ _ => hb1.cell))) rfl ?_ | refine SW.st (st_loads rfl rfl ((fun _ _ => hb7'.cell))) rfl ?_ | refine SW.st (st_load rfl (hb7'.cell rfl)) rfl ?_ | refine SW.st (st_load rfl (hb1.cell rfl)) rfl ?_ | refine SW.st (st_loadsx hw rfl rfl ((hr.free.all hj))) rfl ?_) | (show SW _ _ _ _ (⟨_, Op.call ⟨.value (.func _), _, _⟩, _, _, _, none⟩ :: _) _ _; first | refine SW.qcall rfl rfl (fun w1 hw1 => (cF _ (Ext.trans hw hw1))) ?_ | refine SW.qcall rfl rfl (fun w1 hw1 => (cE _)) ?_) | (refine SW.qcallv rfl rfl rfl (fun w1 _ => cD w1) ?_) | exact SW.qnil rfl)
                    refine Post.again (j + 1 + 1) ⟨rfl, rfl, rfl, rfl, rfl, trivial⟩ (by omega) ⟨by omega, hw, hb1, fun i h hi => ?_, fun i h hi => ?_⟩
                    · by_cases hij : i = j + 1
                      · subst hij; exact hbk
                      · exact hI i h (by omega)
                    · by_cases hij : i = j
                      · subst hij; exact ⟨hlt, hbu⟩
                      · exact hN i h (by omega)
              · repeat' (first | (show CW _ _ _ _ _ _; first | refine CW.seq ?_ | refine CW.region ?_ | refine CW.condd_t rfl (by omega) ?_ | refine CW.ret ?_ | (apply CW.quiet1 mixed; (· kernel_rfl); rotate_left; intro w1 hw1; replace hw := Ext.trans hw hw1; replace hb1 := hb1.ext hw1; replace hb7' := hb7'.ext hw1; clear hw1; rotate_right)) | (show Post _ _ _ _ _; first | refine Post.seq ?_ | refine Post.seq_ret ?_ | refine Post.blk_ret ?_ | refine Post.again_ret ?_) | refine SW.nil ?_ | (show SW _ _ _ _ (⟨_, _, _, _, _, some _⟩ :: _) _ _; first | refine SW.want_t rfl rfl (by with_reducible rfl) ?_ | refine SW.want_f rfl rfl (by with_reducible rfl) ?_ | refine SW.splitd_t rfl rfl rfl (by omega) ?_ | refine SW.want rfl rfl ?_) | refine SW.pure rfl rfl ?_ | (show SW _ _ _ _ (⟨_, Op.fieldAddr _ _ _, _, _, _, none⟩ :: _) _ _; refine SW.st (st_field rfl) rfl ?_) | (show SW _ _ _ _ (⟨_, Op.binOp _ _ _ _ _, _, _, _, none⟩ :: _) _ _; refine SW.st (st_sub rfl rfl (by omega) (by omega)) rfl ?_) | (show SW _ _ _ _ (⟨_, Op.indexAddr _ _ _, _, _, _, none⟩ :: _) _ _; refine SW.st (st_indexI (j) rfl rfl (by assumption) (by omega) (by omega)) rfl ?_) | (show SW _ _ _ _ (⟨_, Op.load _ _, _, _, _, none⟩ :: _) _ _; first | refine SW.st (st_loads rfl rfl ((fun _ _ => hb1.cell))) rfl ?_ | refine SW.st (st_loads rfl rfl ((fun _ _ => hb7'.cell))) rfl ?_ | refine SW.st (st_load rfl (hb7'.cell rfl)) rfl ?_ | refine SW.st (st_load rfl (hb1.cell rfl)) rfl ?_ | refine SW.st (st_loadsx hw rfl rfl ((hr.free.all hj))) rfl ?_) | (show SW _ _ _ _ (⟨_, Op.call ⟨.value (.func _), _, _⟩, _, _, _, none⟩ :: _) _ _; first | refine SW.qcall rfl rfl (fun w1 hw1 => (cF _ (Ext.trans hw hw1))) ?_ | refine SW.qcall rfl rfl (fun w1 hw1 => (cE _)) ?_) | (refine SW.qcallv rfl rfl rfl (fun w1 _ => cD w1) ?_) | exact SW.qnil rfl)
                refine Post.ret1 rfl rfl ⟨_, rfl, hw, ?_⟩
                rw [zoneB_f (fun h => hlt (h.next j hkl).1)]; rfl
          · have hfail : zoneB z = false := zoneB_f (fun h => hbk (h.blk k hkl))
            by_cases hfz : fitsZ z.From z.To (z.Free[k]).At (z.Free[k]).Order
            · have hty' : ¬ tyOk (z.Free[k]).Ty := fun h => hbk ⟨hfz, h⟩
              have cF : ∀ w', Ext w w' → Ans Tryd.prog 55 [.agg (encZ r).toArray, .agg (encBk z.Free[k]).toArray] w' fun v _ => v = .bool true := fun w' _ => by
                have := Zfits_ans r z.Free[k] w' (by omega)
                rwa [eF, eT, decide_eq_true hfz] at this
              have cD : ∀ w', Ans Tryd.prog 53 ([.int .i64 (z.Free[k]).Ty] ++ []) w' fun v _ => v = .bool true := fun w' => by
                have := Zodd_ans (z.Free[k]).Ty w'
                rwa [oddB_t hty'] at this
              repeat' (first | (show CW _ _ _ _ _ _; first | refine CW.seq ?_ | refine CW.region ?_ | refine CW.condtr rfl (by with_reducible rfl) ?_ | refine CW.ret ?_ | (apply CW.quiet1 mixed; (· kernel_rfl); rotate_left; intro w1 hw1; replace hw := Ext.trans hw hw1; replace hb1 := hb1.ext hw1; replace hb7' := hb7'.ext hw1; clear hw1; rotate_right)) | (show Post _ _ _ _ _; first | refine Post.seq ?_ | refine Post.seq_ret ?_ | refine Post.blk_ret ?_ | refine Post.again_ret ?_) | refine SW.nil ?_ | (show SW _ _ _ _ (⟨_, _, _, _, _, some _⟩ :: _) _ _; first | refine SW.skip_f rfl rfl (by with_reducible rfl) rfl ?_ | refine SW.skip_u rfl rfl (by with_reducible rfl) rfl ?_ | refine SW.want rfl rfl ?_) | refine SW.pure rfl rfl ?_ | (show SW _ _ _ _ (⟨_, Op.fieldAddr _ _ _, _, _, _, none⟩ :: _) _ _; refine SW.st (st_field rfl) rfl ?_) | (show SW _ _ _ _ (⟨_, Op.load _ _, _, _, _, none⟩ :: _) _ _; first | refine SW.st (st_loads rfl rfl ((fun _ _ => hb1.cell))) rfl ?_ | refine SW.st (st_loads rfl rfl ((fun _ _ => hb7'.cell))) rfl ?_ | refine SW.st (st_load rfl (hb7'.cell rfl)) rfl ?_) | (show SW _ _ _ _ (⟨_, Op.call ⟨.value (.func _), _, _⟩, _, _, _, none⟩ :: _) _ _; refine SW.qcall rfl rfl (fun w1 hw1 => (cF _ (Ext.trans hw hw1))) ?_) | (refine SW.qcallv rfl rfl rfl (fun w1 _ => cD w1) ?_) | exact SW.qnil rfl)
              exact Post.ret1 rfl rfl ⟨_, rfl, hw, by rw [hfail]; rfl⟩
            · have cF : ∀ w', Ext w w' → Ans Tryd.prog 55 [.agg (encZ r).toArray, .agg (encBk z.Free[k]).toArray] w' fun v _ => v = .bool false := fun w' _ => by
                have := Zfits_ans r z.Free[k] w' (by omega)
                rwa [eF, eT, decide_eq_false hfz] at this
              repeat' (first | (show CW _ _ _ _ _ _; first | refine CW.seq ?_ | refine CW.region ?_ | refine CW.condtr rfl (by with_reducible rfl) ?_ | refine CW.ret ?_ | (apply CW.quiet1 mixed; (· kernel_rfl); rotate_left; intro w1 hw1; replace hw := Ext.trans hw hw1; replace hb1 := hb1.ext hw1; replace hb7' := hb7'.ext hw1; clear hw1; rotate_right)) | (show Post _ _ _ _ _; first | refine Post.seq ?_ | refine Post.seq_ret ?_ | refine Post.blk_ret ?_ | refine Post.again_ret ?_) | refine SW.nil ?_ | (show SW _ _ _ _ (⟨_, _, _, _, _, some _⟩ :: _) _ _; first | refine SW.skip_f rfl rfl (by with_reducible rfl) rfl ?_ | refine SW.skip_u rfl rfl (by with_reducible rfl) rfl ?_ | refine SW.skip rfl rfl rfl rfl ?_) | refine SW.pure rfl rfl ?_ | (show SW _ _ _ _ (⟨_, Op.load _ _, _, _, _, none⟩ :: _) _ _; first | refine SW.st (st_loads rfl rfl ((fun _ _ => hb1.cell))) rfl ?_ | refine SW.st (st_loads rfl rfl ((fun _ _ => hb7'.cell))) rfl ?_) | (show SW _ _ _ _ (⟨_, Op.call ⟨.value (.func _), _, _⟩, _, _, _, none⟩ :: _) _ _; refine SW.qcall rfl rfl (fun w1 hw1 => (cF _ (Ext.trans hw hw1))) ?_) | exact SW.qnil rfl)
              exact Post.ret1 rfl rfl ⟨_, rfl, hw, by rw [hfail]; rfl⟩
        · repeat' (first | (show CW _ _ _ _ _ _; first | refine CW.seq ?_ | refine CW.region ?_ | refine CW.condd_f rfl (by omega) ?_ | refine CW.ret ?_ | refine CW.exit ?_) | (show Post _ _ _ _ _; first | refine Post.seq ?_ | refine Post.seq_exit ?_ | refine Post.hit ?_ | refine Post.again_exit ?_) | refine SW.nil ?_ | refine SW.pure rfl rfl ?_)
          refine Post.ret1 rfl rfl ⟨_, rfl, hw, ?_⟩
          rw [zoneB_t ⟨by rw [← eF, ← eT]; exact hok, hl8, hty, fun i h => hI i h (by omega), fun i h => hN i h (by omega)⟩]; rfl
      · rw [hodd] at cO
        repeat' (first | (show CW _ _ _ _ _ _; first | refine CW.seq ?_ | refine CW.region ?_ | refine CW.condtr rfl (by with_reducible rfl) ?_ | refine CW.condn_f rfl (by omega) ?_ | refine CW.skip ?_ | refine CW.ret ?_) | (show Post _ _ _ _ _; first | refine Post.seq ?_ | refine Post.seq_ret ?_) | refine SW.nil ?_ | (show SW _ _ _ _ (⟨_, _, _, _, _, some _⟩ :: _) _ _; first | refine SW.want_f rfl rfl (by with_reducible rfl) ?_ | refine SW.splitn_f rfl rfl rfl (by omega) ?_) | refine SW.pure rfl rfl ?_ | (show SW _ _ _ _ (⟨_, Op.fieldAddr _ _ _, _, _, _, none⟩ :: _) _ _; refine SW.st (st_field rfl) rfl ?_) | (show SW _ _ _ _ (⟨_, Op.binOp _ _ _ _ _, _, _, _, none⟩ :: _) _ _; first | refine SW.st (st_sub rfl rfl (by omega) (by omega)) rfl ?_ | refine SW.st (st_quo rfl rfl (by omega) (by omega) (by omega)) rfl ?_) | (show SW _ _ _ _ (⟨_, Op.call ⟨.builtin .len, _, _⟩, _, _, _, none⟩ :: _) _ _; refine SW.st (st_len rfl) rfl ?_) | (show SW _ _ _ _ (⟨_, Op.load _ _, _, _, _, none⟩ :: _) _ _; refine SW.st (st_load rfl (hb1.cell rfl)) rfl ?_) | (show SW _ _ _ _ (⟨_, Op.call ⟨.value (.func _), _, _⟩, _, _, _, none⟩ :: _) _ _; (refine SW.call rfl rfl (cO _ hw) ?_; intro v w1 hw1 hv; subst hv; replace hw := Ext.trans hw hw1; replace hb1 := hb1.ext hw1; clear hw1)))
        refine Post.ret1 rfl rfl ⟨_, rfl, hw, ?_⟩
        rw [zoneB_f (fun h => by
          rw [List.any_eq_true] at hodd
          obtain ⟨t, h1, h2⟩ := hodd
          rw [oddB_f (h.types t h1)] at h2
          cases h2)]; rfl
    · repeat' (refine SW.pure rfl rfl ?_)
      refine SW.alloc rfl fun b3 w1 hw1 hb3b hb3 => ?_
      have hb3w : w.heap.size ≤ b3 := Nat.le_trans hw.size hb3b
      have hne_b1 : b1 ≠ b3 := by have := hb1.lt; omega
      replace hw := Ext.trans hw hw1
      replace hb1 := hb1.ext hw1
      replace hs := hs.ext hw1
      refine SW.storeAgg hb3 rfl rfl rfl rfl (one_z _) fun w2 hb3' hg => ?_
      replace hw := hw.own hb3w hg
      replace hs := hs.blk hb3 hg rfl rfl
      replace hb1 := hb1.grown hg (by simpa using hne_b1)
      replace hb3 := hb3'
      clear hb3' hw1 hg hb3b
      repeat' (first | (show CW _ _ _ _ _ _; first | refine CW.seq ?_ | refine CW.region ?_ | refine CW.condn_t rfl (by omega) ?_ | refine CW.ret ?_) | (show Post _ _ _ _ _; first | refine Post.seq ?_ | refine Post.seq_ret ?_) | refine SW.nil ?_ | (show SW _ _ _ _ (⟨_, _, _, _, _, some _⟩ :: _) _ _; first | refine SW.want_f rfl rfl (by with_reducible rfl) ?_ | refine SW.splitn_f rfl rfl rfl (by omega) ?_) | refine SW.pure rfl rfl ?_ | (show SW _ _ _ _ (⟨_, Op.fieldAddr _ _ _, _, _, _, none⟩ :: _) _ _; refine SW.st (st_field rfl) rfl ?_) | (show SW _ _ _ _ (⟨_, Op.binOp _ _ _ _ _, _, _, _, none⟩ :: _) _ _; first | refine SW.st (st_sub rfl rfl (by omega) (by omega)) rfl ?_ | refine SW.st (st_quo rfl rfl (by omega) (by omega) (by omega)) rfl ?_) | (show SW _ _ _ _ (⟨_, Op.call ⟨.builtin .len, _, _⟩, _, _, _, none⟩ :: _) _ _; refine SW.st (st_len rfl) rfl ?_) | (show SW _ _ _ _ (⟨_, Op.load _ _, _, _, _, none⟩ :: _) _ _; refine SW.st (st_load rfl (hb1.cell rfl)) rfl ?_))
      refine Post.ret1 rfl rfl ⟨_, rfl, hw, ?_⟩
      rw [zoneB_f (fun h => hl8 h.len)]; rfl
  · rw [zoneNewV_f hok] at hv
    obtain ⟨s, rfl, hs⟩ := hv
    repeat' (refine SW.pure rfl rfl ?_)
    refine SW.alloc rfl fun b3 w1 hw1 hb3b hb3 => ?_
    have hb3w : w.heap.size ≤ b3 := Nat.le_trans hw.size hb3b
    have hne_b1 : b1 ≠ b3 := by have := hb1.lt; omega
    replace hw := Ext.trans hw hw1
    replace hb1 := hb1.ext hw1
    replace hs := hs.ext hw1
    refine SW.storeAgg hb3 rfl rfl rfl rfl (one_z _) fun w2 hb3' hg => ?_
    replace hw := hw.own hb3w hg
    replace hs := hs.blk hb3 hg rfl rfl
    replace hb1 := hb1.grown hg (by simpa using hne_b1)
    replace hb3 := hb3'
    clear hb3' hw1 hg hb3b
    repeat' (first | (show CW _ _ _ _ _ _; first | refine CW.seq ?_ | refine CW.region ?_ | refine CW.condtr rfl (by with_reducible rfl) ?_ | refine CW.ret ?_) | (show Post _ _ _ _ _; first | refine Post.seq ?_ | refine Post.seq_ret ?_) | refine SW.nil ?_ | (show SW _ _ _ _ (⟨_, _, _, _, _, some _⟩ :: _) _ _; first | refine SW.skip_f rfl rfl (by with_reducible rfl) rfl ?_ | refine SW.splitn_t rfl rfl rfl (by omega) ?_) | refine SW.pure rfl rfl ?_)
    refine Post.ret1 rfl rfl ⟨_, rfl, hw, ?_⟩
    rw [zoneB_f (fun h => hok (by rw [eF, eT]; exact h.ok))]; rfl
end Go.Proofs.YtfommgdbahemfaaDoor
