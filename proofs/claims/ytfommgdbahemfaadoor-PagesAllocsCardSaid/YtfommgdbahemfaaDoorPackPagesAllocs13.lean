/-
  Texts of the claim PagesAllocs, part 13: what its theorem leans on.
-/
import Derived.Test.YtfommgdbahemfaaDoorPackPagesAllocs12
import Derived.Test.YtfommgdbahemfaaDoorPackPagesAllocs7
import Derived.Test.YtfommgdbahemfaaDoorPackPagesAllocs6
import Derived.Test.YtfommgdbahemfaaDoorPackPagesAllocs1
import Derived.Great.BuildSlice
import Derived.ArgAppend
set_option linter.unusedVariables false
namespace Go.Proofs.YtfommgdbahemfaaDoor
def keyEq (a b : PList) : Prop := a.Cpu = b.Cpu ∧ a.Zone = b.Zone ∧ a.Ty = b.Ty
instance (a b : PList) : Decidable (keyEq a b) := inferInstanceAs (Decidable (_ ∧ _))
def LsS (L : List PList) : Prop := L.Pairwise aheadL
theorem ahead_trans {a b c : PList} (h1 : aheadL a b) (h2 : aheadL b c) : aheadL a c := by unfold aheadL at *; omega
theorem ahead_tri (a b : PList) : aheadL a b ∨ keyEq a b ∨ aheadL b a := by unfold aheadL keyEq; omega
theorem ahead_not {a b : PList} (h : aheadL a b) : ¬ keyEq a b ∧ ¬ keyEq b a ∧ ¬ aheadL b a := by unfold aheadL keyEq at *; omega
theorem lists_sorted {c t : Int} {L : List PList} (h : ListsOk c t L) : LsS L := by
 have key : ∀ (d i : Nat) (hj : i + d + 1 < L.length), aheadL (L[i]'(by omega)) L[i + d + 1] := by
  intro d
  induction d with
  | zero => intro i hj; exact h.next i hj
  | succ d ih => intro i hj; exact ahead_trans (ih i (by omega)) (h.next (i + d + 1) (by omega))
 unfold LsS
 rw [List.pairwise_iff_getElem]
 intro i j hi hj hij
 have := key (j - i - 1) i (by omega)
 have e : i + (j - i - 1) + 1 = j := by omega
 simp only [e] at this
 exact this
theorem LsS.get {L : List PList} (h : LsS L) {i j : Nat} (hj : j < L.length) (hij : i < j) : aheadL (L[i]'(Nat.lt_trans hij hj)) L[j] := by
 unfold LsS at h
 rw [List.pairwise_iff_getElem] at h
 exact h i j (by omega) hj hij
def kpos (L : List PList) (x : PList) : Nat := L.findIdx fun l => !decide (aheadL l x)
theorem kpos_le (L : List PList) (x : PList) : kpos L x ≤ L.length := List.findIdx_le_length
theorem kpos_below {L : List PList} {x : PList} {k : Nat} (hk : k < kpos L x) : aheadL (L[k]'(Nat.lt_of_lt_of_le hk (kpos_le L x))) x := by
 have := List.not_of_lt_findIdx hk
 simpa using this
theorem kpos_at {L : List PList} {x : PList} (h : kpos L x < L.length) : ¬ aheadL (L[kpos L x]) x := by
 have := List.findIdx_getElem (w := h)
 exact of_decide_eq_false (by rw [Bool.not_eq_true'] at this; exact this)
theorem kpos_spec {L : List PList} {x : PList} {i : Nat} (hi : i ≤ L.length) (h1 : ∀ (k : Nat) (h : k < L.length), k < i → aheadL L[k] x) (h2 : ∀ h : i < L.length, ¬ aheadL L[i] x) : kpos L x = i := by
 unfold kpos
 by_cases h : i < L.length
 ·exact (List.findIdx_eq h).2 ⟨by simpa using h2 h, fun j hj => by simpa using h1 j (by omega) hj⟩
 ·have e : i = L.length := by omega
  subst e
  rw [List.findIdx_eq_length]
  intro y hy
  obtain ⟨k, hk, rfl⟩ := List.getElem_of_mem hy
  simpa using h1 k hk hk
def khere (L : List PList) (x : PList) : Bool := if h : kpos L x < L.length then decide (keyEq L[kpos L x] x) else false
theorem khere_t {L : List PList} {x : PList} (h : khere L x = true) : ∃ hk : kpos L x < L.length, keyEq L[kpos L x] x := by
 unfold khere at h
 split at h
 ·rename_i hk; exact ⟨hk, of_decide_eq_true h⟩
 ·cases h
theorem khere_f {L : List PList} {x : PList} (h : khere L x = false) (hk : kpos L x < L.length) : aheadL x L[kpos L x] := by
 unfold khere at h
 rw [dif_pos hk] at h
 have h1 := of_decide_eq_false h
 have h2 := kpos_at hk
 rcases ahead_tri L[kpos L x] x with e | e | e
 ·exact absurd e h2
 ·exact absurd e h1
 ·exact e
theorem key_at {L : List PList} (hs : LsS L) {x : PList} {k : Nat} (hk : k < L.length) (h : keyEq L[k] x) : kpos L x = k ∧ khere L x = true := by
 have e : kpos L x = k := kpos_spec (by omega) (fun j hj hjk => by have := hs.get hk hjk; unfold aheadL keyEq at *; omega) (fun _ => by unfold aheadL keyEq at *; omega)
 refine ⟨e, ?_⟩
 unfold khere
 simp only [e, dif_pos hk]
 exact decide_eq_true h
theorem key_none {L : List PList} {x : PList} (h : ∀ (k : Nat) (hk : k < L.length), ¬ keyEq L[k] x) : khere L x = false := by
 cases e : khere L x with
 | false => rfl
 | true => obtain ⟨hk, h1⟩ := khere_t e; exact absurd h1 (h _ hk)
theorem kpos_key {L : List PList} {x y : PList} (h : keyEq x y) : kpos L x = kpos L y ∧ khere L x = khere L y := by
 have e : (fun l => !decide (aheadL l x)) = (fun l : PList => !decide (aheadL l y)) := by
  funext l
  have : aheadL l x ↔ aheadL l y := by unfold aheadL keyEq at *; omega
  simp [this]
 have e1 : kpos L x = kpos L y := by unfold kpos; rw [e]
 refine ⟨e1, ?_⟩
 unfold khere
 simp only [e1]
 split
 ·have : keyEq L[kpos L y] x ↔ keyEq L[kpos L y] y := by unfold keyEq at *; omega
  simp [this]
 ·rfl
def setL (L : List PList) (x : PList) : List PList := if khere L x then L.set (kpos L x) x else insAt L (kpos L x) x
theorem setL_t {L : List PList} {x : PList} (h : khere L x = true) : setL L x = L.set (kpos L x) x := by rw [setL, if_pos h]
theorem setL_f {L : List PList} {x : PList} (h : khere L x = false) : setL L x = insAt L (kpos L x) x := by rw [setL, if_neg (by simp [h])]
def pagesAt (L : List PList) (x : PList) : List Int := if khere L x then (L.getD (kpos L x) x).Pages else []
theorem pagesAt_t {L : List PList} {x : PList} (h : khere L x = true) (hk : kpos L x < L.length) : pagesAt L x = L[kpos L x].Pages := by
 rw [pagesAt, if_pos h, List.getD_eq_getElem?_getD, List.getElem?_eq_getElem hk]; rfl
theorem pagesAt_f {L : List PList} {x : PList} (h : khere L x = false) : pagesAt L x = [] := by rw [pagesAt, if_neg (by simp [h])]
theorem length_insAt {α : Type} (l : List α) {i : Nat} (h : i ≤ l.length) (x : α) : (insAt l i x).length = l.length + 1 := by simp [insAt]; omega
theorem insAt_lt {α : Type} {l : List α} {i : Nat} (h : i ≤ l.length) {x : α} {k : Nat} (hk : k < i) : (insAt l i x)[k]? = l[k]? := by
 unfold insAt
 rw [List.append_assoc, List.getElem?_append_left (by simp; omega), List.getElem?_take_of_lt hk]
theorem insAt_eq {α : Type} {l : List α} {i : Nat} (h : i ≤ l.length) {x : α} : (insAt l i x)[i]? = some x := by
 unfold insAt
 rw [List.append_assoc, List.getElem?_append_right (by simp; omega)]
 have : i - (l.take i).length = 0 := by simp; omega
 rw [this]; rfl
theorem insAt_gt {α : Type} {l : List α} {i : Nat} (h : i ≤ l.length) {x : α} {k : Nat} (hk : i ≤ k) : (insAt l i x)[k + 1]? = l[k]? := by
 unfold insAt
 rw [List.append_assoc, List.getElem?_append_right (by simp; omega)]
 have : k + 1 - (l.take i).length = (k - i) + 1 := by simp; omega
 rw [this, List.singleton_append, List.getElem?_cons_succ, List.getElem?_drop]
 congr 1
 omega
theorem set_insAt {α : Type} {l : List α} {i : Nat} (h : i ≤ l.length) (x y : α) : (insAt l i x).set i y = insAt l i y := by
 unfold insAt
 rw [List.append_assoc, List.append_assoc, List.set_append_right _ _ (by simp; omega)]
 have : i - (l.take i).length = 0 := by simp; omega
 rw [this]; rfl
theorem setL_get {L : List PList} {x : PList} : (setL L x)[kpos L x]? = some x := by
 cases h : khere L x
 ·rw [setL_f h]; exact insAt_eq (kpos_le L x)
 ·obtain ⟨hk, _⟩ := khere_t h
  rw [setL_t h, List.getElem?_set_self hk]
theorem setL_pos {L : List PList} {x : PList} : kpos (setL L x) x = kpos L x ∧ khere (setL L x) x = true := by
 have hg := setL_get (L := L) (x := x)
 obtain ⟨hk, hx⟩ := List.getElem?_eq_some_iff.1 hg
 have e : kpos (setL L x) x = kpos L x := by
  refine kpos_spec (by omega) (fun j hj hjk => ?_) (fun _ => ?_)
  ·have h0 := kpos_below (L := L) (x := x) hjk
   have e1 : (setL L x)[j]? = L[j]? := by
    cases h : khere L x
    ·rw [setL_f h]; exact insAt_lt (kpos_le L x) hjk
    ·rw [setL_t h, List.getElem?_set_ne (by omega)]
   rw [List.getElem?_eq_getElem hj, List.getElem?_eq_getElem (Nat.lt_of_lt_of_le hjk (kpos_le L x))] at e1
   injection e1 with e1
   rw [e1]; exact h0
  ·rw [hx]; unfold aheadL; omega
 refine ⟨e, ?_⟩
 unfold khere
 simp only [e, dif_pos hk, hx]
 exact decide_eq_true ⟨rfl, rfl, rfl⟩
theorem setL_set {L : List PList} {x y : PList} (h : keyEq x y) : (setL L x).set (kpos L x) y = setL L y := by
 obtain ⟨e1, e2⟩ := kpos_key (L := L) h
 cases hh : khere L x
 ·rw [setL_f hh, setL_f (by rw [← e2]; exact hh), set_insAt (kpos_le L x), e1]
 ·rw [setL_t hh, setL_t (by rw [← e2]; exact hh), List.set_set, e1]
def setPre (L : List PList) (x : PList) (k : Nat) : List PList := if k ≤ kpos L x then L.take k else if khere L x then (L.set (kpos L x) x).take k else (insAt L (kpos L x) x).take (k + 1)
theorem take_get {α : Type} {l : List α} {k : Nat} {x : α} (h : l[k]? = some x) : l.take (k + 1) = l.take k ++ [x] := by
 obtain ⟨hk, rfl⟩ := List.getElem?_eq_some_iff.1 h
 exact List.take_succ_eq_append_getElem hk
theorem setPre_low {L : List PList} {x : PList} {k : Nat} (hk : k < kpos L x) : setPre L x (k + 1) = setPre L x k ++ [L[k]'(Nat.lt_of_lt_of_le hk (kpos_le L x))] := by
 have := kpos_le L x
 rw [setPre, if_pos (by omega), setPre, if_pos (by omega)]
 exact List.take_succ_eq_append_getElem (by omega)
theorem setPre_here {L : List PList} {x : PList} {k : Nat} (hk : k = kpos L x) (hh : khere L x = true) : setPre L x (k + 1) = setPre L x k ++ [x] := by
 obtain ⟨hl, _⟩ := khere_t hh
 subst hk
 rw [setPre, if_neg (by omega), if_pos hh, setPre, if_pos (Nat.le_refl _), take_get (x := x) (List.getElem?_set_self hl), List.take_set_of_le (Nat.le_refl _)]
theorem setPre_in {L : List PList} {x : PList} {k : Nat} (hk : k = kpos L x) (hl : k < L.length) (hh : khere L x = false) : setPre L x (k + 1) = setPre L x k ++ [x] ++ [L[k]] := by
 subst hk
 have hle := kpos_le L x
 rw [setPre, if_neg (by omega), if_neg (by simp [hh]), setPre, if_pos (Nat.le_refl _), take_get (x := L[kpos L x]) (by rw [insAt_gt hle (Nat.le_refl _), List.getElem?_eq_getElem hl]), take_get (insAt_eq hle)]
 congr 2
 unfold insAt
 rw [List.append_assoc, List.take_append_of_le_length (by simp; omega), List.take_take, Nat.min_self]
theorem setPre_high {L : List PList} {x : PList} {k : Nat} (hk : kpos L x < k) (hl : k < L.length) : setPre L x (k + 1) = setPre L x k ++ [L[k]] := by
 have hle := kpos_le L x
 rw [setPre, if_neg (show ¬ k + 1 ≤ kpos L x by omega), setPre, if_neg (show ¬ k ≤ kpos L x by omega)]
 cases hh : khere L x
 ·simp only [Bool.false_eq_true, if_false]
  exact take_get (by rw [insAt_gt hle (by omega), List.getElem?_eq_getElem hl])
 ·simp only [if_true]
  exact take_get (by rw [List.getElem?_set_ne (by omega), List.getElem?_eq_getElem hl])
theorem setPre_done {L : List PList} {x : PList} (hk : kpos L x < L.length) : setPre L x L.length = setL L x := by
 rw [setPre, if_neg (by omega), setL]
 split
 ·exact List.take_of_length_le (by simp)
 ·exact List.take_of_length_le (by rw [length_insAt _ (kpos_le L x)]; omega)
theorem setPre_last {L : List PList} {x : PList} (hk : ¬ kpos L x < L.length) : setPre L x L.length ++ [x] = setL L x := by
 have hle := kpos_le L x
 have e : kpos L x = L.length := by omega
 have hf : khere L x = false := by unfold khere; rw [dif_neg hk]
 rw [setPre, if_pos (by omega), setL_f hf, e, insAt]
 simp
end Go.Proofs.YtfommgdbahemfaaDoor
set_option linter.unusedVariables false
set_option linter.unusedSimpArgs false
namespace Go.Proofs.YtfommgdbahemfaaDoor
open Go.RowKit
def rowKey (y : LRow) (x : PList) : Prop := y.Cpu = x.Cpu ∧ y.Zone = x.Zone ∧ y.Ty = x.Ty
theorem RdL.key {w : World} {r : LRow} {l : PList} (h : RdL w r l) : rowKey r l := ⟨h.cpu, h.zone, h.ty⟩
theorem plist_ans (r : HRow) (L : List PList) (ls : List LRow) (x : PList) (y : LRow) (w : World) (hl : RdLs w r.Lists ls L) (hk : rowKey y x) (hn : r.Lists.n ≤ 1000000000000000000) :
  Ans Tryd.prog 121 [.agg (encH r).toArray, .agg (encL y).toArray] w fun v _ => v = .tuple #[.int .i64 (kpos L x : Int), .bool (khere L x)] := by
 refine ans_of Tryd.func121 rfl Tryd.ntmps121 rfl ?_
 refine CW.seq (CW.region (SW.box rfl rfl fun b2 w1 hw hb2b hb2 => ?_))
 refine SW.box rfl rfl fun b3 w2 hw2 hb3b hb3 => ?_
 (replace hw := Ext.trans hw hw2; replace hb2 := hb2.ext hw2)
 obtain ⟨l1, l2⟩ := hl.len
 have hA := hl.row.base
 repeat' (first | (show CW _ _ _ _ _ _; first | refine CW.seq ?_ | refine CW.region ?_ | refine CW.block ?_) | (show Post _ _ _ _ _; refine Post.seq ?_) | refine SW.nil ?_ | refine SW.pure rfl rfl ?_)
 refine CW.loop (fun i : Nat => [(2, .pointer (some ⟨b2, 0, none⟩)), (3, .pointer (some ⟨b3, 0, none⟩)), (6, .int .i64 (i : Int))])
  (fun i w' => i ≤ r.Lists.n ∧ Ext w w' ∧ Blk w' b2 35 (encH r) ∧ Blk w' b3 84 (encL y) ∧ ∀ (k : Nat) (h : k < L.length), k < i → aheadL L[k] x) (fun i => r.Lists.n - i) 0
  ⟨rfl, rfl, rfl, trivial⟩ ⟨by omega, hw, hb2, hb3, fun k h h' => by omega⟩ ?_
 clear hw hb2 hb3
 rintro i w' ⟨hi, hw, hb2, hb3, hI⟩
 by_cases hin : i < r.Lists.n
 ·have hil : i < L.length := by omega
  have hils : i < ls.length := by omega
  have hrd := hl.each.get i hils hil
  obtain ⟨q, hq⟩ : ∃ q, decide (aheadL L[i] x) = q := ⟨_, rfl⟩
  obtain ⟨p, hp⟩ : ∃ p, decide (aheadL x L[i]) = p := ⟨_, rfl⟩
  have cL : ∀ w', Ans Tryd.prog 119 [.agg (encL ls[i]).toArray, .agg (encL y).toArray] w' fun v _ => v = .bool q := fun w' => by
   have := lessL_ans ls[i] y L[i] x w' hrd.key hk
   rwa [hq] at this
  have cR : ∀ w', Ans Tryd.prog 119 [.agg (encL y).toArray, .agg (encL ls[i]).toArray] w' fun v _ => v = .bool p := fun w' => by
   have := lessL_ans y ls[i] x L[i] w' hk hrd.key
   rwa [hp] at this
  cases q
  ·have hno := of_decide_eq_false hq
   have ek : kpos L x = i := kpos_spec (by omega) hI (fun _ => hno)
   have eh : khere L x = !p := by
    unfold khere
    simp only [ek, dif_pos hil, ← hp]
    rcases ahead_tri L[i] x with e | e | e
    ·exact absurd e hno
    ·have : ¬ aheadL x L[i] := by unfold aheadL keyEq at *; omega
     simp [e, this]
    ·have := (ahead_not e).2.1
     simp [e, this]
   rw [ek, eh]
   cases p
   all_goals
    repeat' (first | (show CW _ _ _ _ _ _; first | refine CW.seq ?_ | refine CW.condfr rfl (by with_reducible rfl) ?_ | refine CW.ret ?_ | refine CW.exit ?_ | (apply CW.quiet1 mixed; (· kernel_rfl); rotate_left; intro w1 hw1; replace hw := Ext.trans hw hw1; replace hb2 := hb2.ext hw1; replace hb3 := hb3.ext hw1; clear hw1; rotate_right)) | (show Post _ _ _ _ _; first | refine Post.seq ?_ | refine Post.seq_exit ?_ | refine Post.hit ?_ | refine Post.again_exit ?_) | (show SW _ _ _ _ (⟨_, _, _, _, _, some _⟩ :: _) _ _; first | refine SW.want_t rfl rfl (by with_reducible rfl) ?_ | refine SW.splitd_t rfl rfl rfl (by omega) ?_) | refine SW.pure rfl rfl ?_ | (show SW _ _ _ _ (⟨_, Op.fieldAddr _ _ _, _, _, _, none⟩ :: _) _ _; refine SW.st (st_field rfl) rfl ?_) | (show SW _ _ _ _ (⟨_, Op.indexAddr _ _ _, _, _, _, none⟩ :: _) _ _; refine SW.st (st_indexN rfl rfl (by assumption) (by omega)) rfl ?_) | (show SW _ _ _ _ (⟨_, Op.call ⟨.builtin .len, _, _⟩, _, _, _, none⟩ :: _) _ _; refine SW.st (st_len rfl) rfl ?_) | (show SW _ _ _ _ (⟨_, Op.load _ _, _, _, _, none⟩ :: _) _ _; first | refine SW.st (st_load rfl (hb2.cell (i := 3) (v := .slice r.Lists.A r.Lists.n r.Lists.c) rfl)) rfl ?_ | refine SW.st (st_loadsx hw rfl rfl ((hl.row.all hin))) rfl ?_ | refine SW.st (st_loads rfl rfl ((fun _ _ => hb3.cell))) rfl ?_) | (show SW _ _ _ _ (⟨_, Op.call ⟨.value (.func _), _, _⟩, _, _, _, none⟩ :: _) _ _; first | refine SW.qcall rfl rfl (fun w1 hw1 => (cL _)) ?_ | refine SW.qcall rfl rfl (fun w1 hw1 => (cR _)) ?_) | exact SW.qnil rfl)
    exact Post.ret2 rfl rfl rfl ⟨_, rfl, hw, rfl⟩
  ·have hyes := of_decide_eq_true hq
   repeat' (first | (show CW _ _ _ _ _ _; first | refine CW.seq ?_ | refine CW.region ?_ | refine CW.block ?_ | refine CW.condtr rfl (by with_reducible rfl) ?_ | refine CW.skip ?_ | (apply CW.quiet1 mixed; (· kernel_rfl); rotate_left; intro w1 hw1; replace hw := Ext.trans hw hw1; replace hb2 := hb2.ext hw1; replace hb3 := hb3.ext hw1; clear hw1; rotate_right)) | (show Post _ _ _ _ _; first | refine Post.seq ?_ | refine Post.blk ?_) | refine SW.nil ?_ | (show SW _ _ _ _ (⟨_, _, _, _, _, some _⟩ :: _) _ _; first | refine SW.want_t rfl rfl (by with_reducible rfl) ?_ | refine SW.splitd_t rfl rfl rfl (by omega) ?_) | refine SW.pure rfl rfl ?_ | (show SW _ _ _ _ (⟨_, Op.fieldAddr _ _ _, _, _, _, none⟩ :: _) _ _; refine SW.st (st_field rfl) rfl ?_) | (show SW _ _ _ _ (⟨_, Op.binOp _ _ _ _ _, _, _, _, none⟩ :: _) _ _; refine SW.st (st_add rfl rfl (by omega) (by omega)) rfl ?_) | (show SW _ _ _ _ (⟨_, Op.indexAddr _ _ _, _, _, _, none⟩ :: _) _ _; refine SW.st (st_indexN rfl rfl (by assumption) (by omega)) rfl ?_) | (show SW _ _ _ _ (⟨_, Op.call ⟨.builtin .len, _, _⟩, _, _, _, none⟩ :: _) _ _; refine SW.st (st_len rfl) rfl ?_) | (show SW _ _ _ _ (⟨_, Op.load _ _, _, _, _, none⟩ :: _) _ _; first | refine SW.st (st_load rfl (hb2.cell (i := 3) (v := .slice r.Lists.A r.Lists.n r.Lists.c) rfl)) rfl ?_ | refine SW.st (st_loadsx hw rfl rfl ((hl.row.all hin))) rfl ?_ | refine SW.st (st_loads rfl rfl ((fun _ _ => hb3.cell))) rfl ?_) | (show SW _ _ _ _ (⟨_, Op.call ⟨.value (.func _), _, _⟩, _, _, _, none⟩ :: _) _ _; refine SW.qcall rfl rfl (fun w1 hw1 => (cL _)) ?_) | exact SW.qnil rfl)
   exact Post.again (i + 1) ⟨rfl, rfl, rfl, trivial⟩ (by omega) ⟨by omega, hw, hb2, hb3, fun k h h' => by
    by_cases e : k = i
    ·subst e; exact hyes
    ·exact hI k h (by omega)⟩
 ·have ek : kpos L x = i := kpos_spec (by omega) hI (fun h => by omega)
  have eh : khere L x = false := by unfold khere; rw [dif_neg (by omega)]
  rw [ek, eh]
  repeat' (first | (show CW _ _ _ _ _ _; first | refine CW.seq ?_ | refine CW.condfr rfl (by with_reducible rfl) ?_ | refine CW.ret ?_ | refine CW.exit ?_ | (apply CW.quiet1 mixed; (· kernel_rfl); rotate_left; intro w1 hw1; replace hw := Ext.trans hw hw1; replace hb2 := hb2.ext hw1; replace hb3 := hb3.ext hw1; clear hw1; rotate_right)) | (show Post _ _ _ _ _; first | refine Post.seq ?_ | refine Post.seq_exit ?_ | refine Post.hit ?_ | refine Post.again_exit ?_) | (show SW _ _ _ _ (⟨_, _, _, _, _, some _⟩ :: _) _ _; first | refine SW.skip_t rfl rfl (by with_reducible rfl) rfl ?_ | refine SW.splitd_f rfl rfl rfl (by omega) ?_) | refine SW.pure rfl rfl ?_ | (show SW _ _ _ _ (⟨_, Op.fieldAddr _ _ _, _, _, _, none⟩ :: _) _ _; refine SW.st (st_field rfl) rfl ?_) | (show SW _ _ _ _ (⟨_, Op.call ⟨.builtin .len, _, _⟩, _, _, _, none⟩ :: _) _ _; refine SW.st (st_len rfl) rfl ?_) | (show SW _ _ _ _ (⟨_, Op.load _ _, _, _, _, none⟩ :: _) _ _; refine SW.st (st_load rfl (hb2.cell (i := 3) (v := .slice r.Lists.A r.Lists.n r.Lists.c) rfl)) rfl ?_) | exact SW.qnil rfl)
  exact Post.ret2 rfl rfl rfl ⟨_, rfl, hw, rfl⟩
theorem cmpLive_ans (x : Block) (a : Int) (w : World) : Ans Tryd.prog 93 ([.agg (encBk x).toArray, .int .i64 a] ++ []) w fun v _ => v = .int .i64 (IntKind.i64.wrap (x.At - a)) := by
 refine ans_of Tryd.func93 rfl Tryd.ntmps93 rfl ?_
 refine CW.seq (CW.region (SW.box rfl rfl fun b1 w1 hw hb1b hb1 => ?_))
 repeat' (first | (show CW _ _ _ _ _ _; first | refine CW.seq ?_ | refine CW.region ?_ | refine CW.ret ?_) | (show Post _ _ _ _ _; refine Post.seq ?_) | refine SW.nil ?_ | refine SW.pure rfl rfl ?_ | (show SW _ _ _ _ (⟨_, Op.fieldAddr _ _ _, _, _, _, none⟩ :: _) _ _; refine SW.st (st_field rfl) rfl ?_) | (show SW _ _ _ _ (⟨_, Op.load _ _, _, _, _, none⟩ :: _) _ _; refine SW.st (st_load rfl (hb1.cell rfl)) rfl ?_) | (refine SW.st (st_subw rfl rfl) rfl ?_))
 exact Post.ret1 rfl rfl ⟨_, rfl, hw, rfl⟩
theorem listOf_ans (r : HRow) (L : List PList) (ls : List LRow) (x : PList) (w : World) (hl : RdLs w r.Lists ls L) (hs : LsS L) (hn : r.Lists.n ≤ 1000000000000000000) (hp : ∀ l ∈ L, l.Pages.length * 8 ≤ 140737488355328) :
  Ans Tryd.prog 98 [.agg (encH r).toArray, .int .i64 x.Cpu, .int .i64 x.Zone, .int .i64 x.Ty] w fun v w' => ∃ A c, v = .slice A (pagesAt L x).length c ∧ Own w' w.heap.size 3 1 encI A (pagesAt L x).length c (pagesAt L x) := by
 refine ans_of Tryd.func98 rfl Tryd.ntmps98 rfl ?_
 refine CW.seq (CW.region (SW.box rfl rfl fun b4 w1 hw hb4b hb4 => ?_))
 obtain ⟨l1, l2⟩ := hl.len
 have hA := hl.row.base
 repeat' (first | (show CW _ _ _ _ _ _; first | refine CW.seq ?_ | refine CW.region ?_ | refine CW.block ?_) | (show Post _ _ _ _ _; refine Post.seq ?_) | refine SW.nil ?_ | refine SW.pure rfl rfl ?_)
 refine CW.loop (fun i : Nat => [(1, .int .i64 x.Cpu), (2, .int .i64 x.Zone), (3, .int .i64 x.Ty), (4, .pointer (some ⟨b4, 0, none⟩)), (9, .int .i64 (i : Int))])
  (fun i w' => i ≤ r.Lists.n ∧ Ext w w' ∧ Blk w' b4 35 (encH r) ∧ ∀ (k : Nat) (h : k < L.length), k < i → ¬ keyEq L[k] x) (fun i => r.Lists.n - i) 0
  ⟨rfl, rfl, rfl, rfl, rfl, trivial⟩ ⟨by omega, hw, hb4, fun k h h' => by omega⟩ ?_
 clear hw hb4
 rintro i w' ⟨hi, hw, hb4, hI⟩
 by_cases hin : i < r.Lists.n
 ·have hil : i < L.length := by omega
  have hils : i < ls.length := by omega
  have hrd := hl.each.get i hils hil
  have e1 := hrd.cpu
  have e2 := hrd.zone
  have e3 := hrd.ty
  have hpl := hrd.pages.len
  have hp1 := hp _ (List.getElem_mem hil)
  have g0 := hl.row.fld hin (j := 0) (u := .int .i64 ls[i].Cpu) rfl
  have g1 := hl.row.fld hin (j := 1) (u := .int .i64 ls[i].Zone) rfl
  have g2 := hl.row.fld hin (j := 2) (u := .int .i64 ls[i].Ty) rfl
  have g3 := hl.row.fld hin (j := 3) (u := .slice ls[i].Pages.A ls[i].Pages.n ls[i].Pages.c) rfl
  by_cases hk : keyEq L[i] x
  ·obtain ⟨k1, k2, k3⟩ := id hk
   obtain ⟨ek, eh⟩ := key_at hs hil hk
   have ep : pagesAt L x = L[i].Pages := by
    rw [pagesAt_t eh (by omega)]
    simp only [ek]
   rw [ep]
   repeat' (first | (show CW _ _ _ _ _ _; first | refine CW.seq ?_ | refine CW.region ?_ | refine CW.block ?_ | refine CW.condd_t rfl (by omega) ?_ | refine CW.skip ?_) | (show Post _ _ _ _ _; refine Post.seq ?_) | refine SW.nil ?_ | (show SW _ _ _ _ (⟨_, _, _, _, _, some _⟩ :: _) _ _; first | refine SW.want_t rfl rfl (by with_reducible rfl) ?_ | refine SW.splitd_t rfl rfl rfl (by omega) ?_) | refine SW.pure rfl rfl ?_ | (show SW _ _ _ _ (⟨_, Op.fieldAddr _ _ _, _, _, _, none⟩ :: _) _ _; refine SW.st (st_field rfl) rfl ?_) | (show SW _ _ _ _ (⟨_, Op.indexAddr _ _ _, _, _, _, none⟩ :: _) _ _; refine SW.st (st_indexN rfl rfl (by assumption) (by omega)) rfl ?_) | (show SW _ _ _ _ (⟨_, Op.call ⟨.builtin .len, _, _⟩, _, _, _, none⟩ :: _) _ _; refine SW.st (st_len rfl) rfl ?_) | (show SW _ _ _ _ (⟨_, Op.load _ _, _, _, _, none⟩ :: _) _ _; first | refine SW.st (st_load rfl (hb4.cell (i := 3) (v := .slice r.Lists.A r.Lists.n r.Lists.c) rfl)) rfl ?_ | refine SW.st (st_loadx hw rfl g0) rfl ?_ | refine SW.st (st_loadx hw rfl g1) rfl ?_ | refine SW.st (st_loadx hw rfl g2) rfl ?_ | refine SW.st (st_loadx hw rfl g3) rfl ?_))
   all_goals first | (exfalso; omega) | skip
   refine SW.call rfl rfl (words_ans _ _ _ _ _ (hrd.pages.ext hw) (by omega)) fun v w4 hXX hv => ?_
   obtain ⟨X, c4, rfl, hX⟩ := hv
   replace hX := hX.low hw.size
   replace hw := Ext.trans hw hXX
   repeat' (first | (show CW _ _ _ _ _ _; refine CW.ret ?_) | (show Post _ _ _ _ _; first | refine Post.seq ?_ | refine Post.seq_ret ?_ | refine Post.blk_ret ?_ | refine Post.again_ret ?_) | refine SW.nil ?_ | refine SW.pure rfl rfl ?_)
   refine Post.ret1 rfl rfl ⟨_, rfl, hw, X, c4, by rw [hpl], by rw [hpl]; exact hX⟩
  ·have hk' : ¬ (ls[i].Cpu = x.Cpu ∧ ls[i].Zone = x.Zone ∧ ls[i].Ty = x.Ty) := by unfold keyEq at hk; omega
   repeat' (first | (show CW _ _ _ _ _ _; first | refine CW.seq ?_ | refine CW.region ?_ | refine CW.block ?_ | refine CW.condfr rfl (by with_reducible rfl) ?_ | refine CW.condd_t rfl (by omega) ?_ | refine CW.condd_f rfl (by omega) ?_ | refine CW.skip ?_) | (show Post _ _ _ _ _; first | refine Post.seq ?_ | refine Post.blk ?_) | refine SW.nil ?_ | (show SW _ _ _ _ (⟨_, _, _, _, _, some _⟩ :: _) _ _; first | refine SW.want_t rfl rfl (by with_reducible rfl) ?_ | refine SW.skip_t rfl rfl (by with_reducible rfl) rfl ?_ | refine SW.splitd rfl rfl rfl (fun h => ?_) (fun h => ?_)) | refine SW.pure rfl rfl ?_ | (show SW _ _ _ _ (⟨_, Op.fieldAddr _ _ _, _, _, _, none⟩ :: _) _ _; refine SW.st (st_field rfl) rfl ?_) | (show SW _ _ _ _ (⟨_, Op.binOp _ _ _ _ _, _, _, _, none⟩ :: _) _ _; refine SW.st (st_add rfl rfl (by omega) (by omega)) rfl ?_) | (show SW _ _ _ _ (⟨_, Op.indexAddr _ _ _, _, _, _, none⟩ :: _) _ _; refine SW.st (st_indexN rfl rfl (by assumption) (by omega)) rfl ?_) | (show SW _ _ _ _ (⟨_, Op.call ⟨.builtin .len, _, _⟩, _, _, _, none⟩ :: _) _ _; refine SW.st (st_len rfl) rfl ?_) | (show SW _ _ _ _ (⟨_, Op.load _ _, _, _, _, none⟩ :: _) _ _; first | refine SW.st (st_load rfl (hb4.cell (i := 3) (v := .slice r.Lists.A r.Lists.n r.Lists.c) rfl)) rfl ?_ | refine SW.st (st_loadx hw rfl g0) rfl ?_ | refine SW.st (st_loadx hw rfl g1) rfl ?_ | refine SW.st (st_loadx hw rfl g2) rfl ?_))
   all_goals first | (exfalso; omega) | skip
   all_goals
    exact Post.again (i + 1) ⟨rfl, rfl, rfl, rfl, rfl, trivial⟩ (by omega) ⟨by omega, hw, hb4, fun k h h' => by
     by_cases e : k = i
     ·subst e; exact hk
     ·exact hI k h (by omega)⟩
 ·have ep : pagesAt L x = [] := pagesAt_f (key_none fun k hk => hI k hk (by omega))
  rw [ep]
  repeat' (first | (show CW _ _ _ _ _ _; first | refine CW.seq ?_ | refine CW.region ?_ | refine CW.condd_f rfl (by omega) ?_ | refine CW.ret ?_ | refine CW.exit ?_) | (show Post _ _ _ _ _; first | refine Post.seq ?_ | refine Post.seq_exit ?_ | refine Post.hit ?_ | refine Post.again_exit ?_) | refine SW.nil ?_ | refine SW.pure rfl rfl ?_ | (show SW _ _ _ _ (⟨_, Op.fieldAddr _ _ _, _, _, _, none⟩ :: _) _ _; refine SW.st (st_field rfl) rfl ?_) | (show SW _ _ _ _ (⟨_, Op.call ⟨.builtin .len, _, _⟩, _, _, _, none⟩ :: _) _ _; refine SW.st (st_len rfl) rfl ?_) | (show SW _ _ _ _ (⟨_, Op.load _ _, _, _, _, none⟩ :: _) _ _; refine SW.st (st_load rfl (hb4.cell (i := 3) (v := .slice r.Lists.A r.Lists.n r.Lists.c) rfl)) rfl ?_))
  exact Post.ret1 rfl rfl ⟨_, rfl, hw, none, 0, rfl, Own.nil_ _ _ _ _ _ _⟩
end Go.Proofs.YtfommgdbahemfaaDoor
set_option linter.unusedVariables false
namespace Go.Proofs.YtfommgdbahemfaaDoor
open Go.RowKit
theorem one_h (r : HRow) : ∀ v ∈ encH r, v.oneCell' = true := Enc.one (enc := encH) r
theorem one_l (r : LRow) : ∀ v ∈ encL r, v.oneCell' = true := Enc.one (enc := encL) r
def SepL (ls : List LRow) : Prop := ∀ (i j : Nat) (hi : i < ls.length) (hj : j < ls.length), i ≠ j → ∀ g, ownB ls[i].Pages.A ls[i].Pages.c = some g → ownB ls[j].Pages.A ls[j].Pages.c ≠ some g
structure SepM (m : Sli) (zs : List ZRow) (ls : List LRow) : Prop where
 mins : ∀ (i : Nat) (hi : i < ls.length) (g : Nat), ownB ls[i].Pages.A ls[i].Pages.c = some g → ownB m.A m.c ≠ some g
 types : ∀ (i : Nat) (hi : i < ls.length) (g : Nat), ownB ls[i].Pages.A ls[i].Pages.c = some g → ∀ u ∈ zs, ownB u.Types.A u.Types.c ≠ some g
 sep : SepL ls
theorem SepM.nil (m : Sli) (zs : List ZRow) : SepM m zs [] := ⟨fun i hi => by simp at hi, fun i hi => by simp at hi, fun i j hi => by simp at hi⟩
theorem SepM.snoc {w : World} {lo : Nat} {m : Sli} {zs : List ZRow} {ls : List LRow} {s li : Sli} {x : List Int} {zl : List Zone} {L : List PList} {y : LRow} (h : SepM m zs ls) (hm : Own w lo 3 1 encI m.A m.n m.c x) (hz : OwnZs w lo s zs zl) (hl : OwnLs w lo li ls L) (hy : ∀ g, ownB y.Pages.A y.Pages.c = some g → w.heap.size ≤ g) : SepM m zs (ls ++ [y]) := by
 have hlt : ∀ (i : Nat) (hi : i < ls.length) (g : Nat), ownB ls[i].Pages.A ls[i].Pages.c = some g → g < w.heap.size := fun i hi g e => (hl.each.get i hi (by rw [← hl.each.len]; exact hi)).pages.lt_size g e
 have key : ∀ (i : Nat) (hi : i < (ls ++ [y]).length), (∃ h : i < ls.length, (ls ++ [y])[i] = ls[i]) ∨ (i = ls.length ∧ (ls ++ [y])[i] = y) := fun i hi => by
  by_cases e : i < ls.length
  ·exact .inl ⟨e, List.getElem_append_left e⟩
  ·have : i = ls.length := by simp at hi; omega
   subst this
   exact .inr ⟨rfl, by simp⟩
 refine ⟨fun i hi g e => ?_, fun i hi g e u hu => ?_, fun i j hi hj hij g e e2 => ?_⟩
 ·rcases key i hi with ⟨h1, h2⟩ | ⟨h1, h2⟩
  ·rw [h2] at e; exact h.mins i h1 g e
  ·rw [h2] at e; intro e3; have := hm.lt_size g e3; have := hy g e; omega
 ·rcases key i hi with ⟨h1, h2⟩ | ⟨h1, h2⟩
  ·rw [h2] at e; exact h.types i h1 g e u hu
  ·rw [h2] at e
   intro e3
   obtain ⟨j, hj, rfl⟩ := List.getElem_of_mem hu
   have := (hz.each.get j hj (by rw [← hz.each.len]; exact hj)).types.lt_size g e3
   have := hy g e
   omega
 ·rcases key i hi with ⟨h1, h2⟩ | ⟨h1, h2⟩
  ·rw [h2] at e
   rcases key j hj with ⟨h3, h4⟩ | ⟨h3, h4⟩
   ·rw [h4] at e2; exact h.sep i j h1 h3 hij g e e2
   ·rw [h4] at e2; have := hlt i h1 g e; have := hy g e2; omega
  ·rw [h2] at e
   rcases key j hj with ⟨h3, h4⟩ | ⟨h3, h4⟩
   ·rw [h4] at e2; have := hlt j h3 g e2; have := hy g e; omega
   ·omega
def SepF (lv : Sli) (zs : List ZRow) : Prop := ∀ u ∈ zs, ∀ g, ownB u.Free.A u.Free.c = some g → ownB lv.A lv.c ≠ some g
theorem SepF.nil (lv : Sli) : SepF lv [] := fun u hu => by simp at hu
theorem SepF.snoc {w : World} {lo : Nat} {lv : Sli} {zs : List ZRow} {x : List Block} {u : ZRow} (h : SepF lv zs) (hl : Own w lo 55 3 encBk lv.A lv.n lv.c x) (hu : ∀ g, ownB u.Free.A u.Free.c = some g → w.heap.size ≤ g) : SepF lv (zs ++ [u]) := fun y hy g e e2 => by
 rcases List.mem_append.1 hy with hy | hy
 ·exact h y hy g e e2
 ·simp at hy; subst hy
  have := hu g e
  have := hl.lt_size g e2
  omega
structure OwnHS (w : World) (lo : Nat) (r : HRow) (h : Heap) : Prop where
 own : OwnH w lo r h
 all : ∃ zs ls, OwnZs w lo r.Zones zs h.Zones ∧ OwnLs w lo r.Lists ls h.Lists ∧ SepM r.Mins zs ls ∧ SepF r.Live zs
set_option maxHeartbeats 4000000 in
theorem HcopyS_ans (r : HRow) (h : Heap) (w : World) (hr : RdH w r h) (hs : h.small) :
  Ans Tryd.prog 44 [.agg (encH r).toArray] w fun v w' => ∃ s, v = .agg (encH s).toArray ∧ OwnHS w' w.heap.size s h := by
 refine ans_of Tryd.func44 rfl Tryd.ntmps44 rfl ?_
 refine CW.seq (CW.region (SW.box rfl rfl fun b1 w1 hw hb1b hb1 => ?_))
 refine SW.alloc rfl fun b2 w2 hw2 hb2b hb2 => ?_
 have hb2w : w.heap.size ≤ b2 := Nat.le_trans hw.size hb2b
 have hne2 : b2 ≠ b1 := by have := hb1.lt; omega
 (replace hw := Ext.trans hw hw2; replace hb1 := hb1.ext hw2)
 obtain ⟨zs, hz⟩ := hr.zones
 obtain ⟨ls, hl⟩ := hr.lists
 have hml := hr.mins.len
 have hvl := hr.live.len
 have s1 := hs.mins
 have s2 := hs.live
 have s3 := hs.zones
 have s4 := hs.lists
 obtain ⟨z1, z2⟩ := hz.len
 obtain ⟨l1, l2⟩ := hl.len
 repeat' (first | (show CW _ _ _ _ _ _; refine CW.seq ?_) | (show Post _ _ _ _ _; refine Post.seq ?_) | refine SW.nil ?_)
 obtain ⟨K, hK⟩ : ∃ K : Env → World → Prop, K = fun L' w' => ∃ X c1 Y d1 b3, subEnv L' [(1, .pointer (some ⟨b1, 0, none⟩)), (2, .pointer (some ⟨b2, 0, none⟩)), (3, .pointer (some ⟨b3, 0, none⟩))] ∧ Ext w w' ∧ Blk w' b1 35 (encH r) ∧ Blk w' b2 35 (encH .zero) ∧
  Blk w' b3 35 (encH ⟨.nil, ⟨X, r.Mins.n, c1⟩, r.Cpus, .nil, ⟨Y, r.Live.n, d1⟩⟩) ∧ Own w' w.heap.size 3 1 encI X r.Mins.n c1 h.Mins ∧ Own w' w.heap.size 55 3 encBk Y r.Live.n d1 h.Live ∧ w.heap.size ≤ b3 ∧ b1 ≠ b3 ∧ b2 ≠ b3 := ⟨_, rfl⟩
 refine CW.cut K ?_ ?_
 ·refine CW.any 10 mixed (rb_tail (by kernel_rfl)) rfl fun w1 hw1 hRB => ?_
  replace hw := Ext.trans hw hw1; replace hb1 := hb1.ext hw1; replace hb2 := hb2.ext hw1; clear hw1
  refine SA.take 0 hRB rfl (by kernel_rfl) (by kernel_rfl) rfl ?_
  repeat ((show SW _ _ _ _ (⟨_, Op.fieldAddr _ _ _, _, _, _, none⟩ :: _) _ _; refine SW.st (st_field rfl) rfl ?_))
  refine SW.tknil ?_
  refine SA.take 1 hRB rfl (by kernel_rfl) (by kernel_rfl) rfl ?_
  repeat ((show SW _ _ _ _ (⟨_, Op.load _ _, _, _, _, none⟩ :: _) _ _; refine SW.st (st_load rfl (hb1.cell rfl)) rfl ?_))
  refine SW.tknil ?_
  refine SA.take 3 hRB rfl (by kernel_rfl) (by kernel_rfl) rfl ?_
  repeat ((show SW _ _ _ _ (⟨_, Op.fieldAddr _ _ _, _, _, _, none⟩ :: _) _ _; refine SW.st (st_field rfl) rfl ?_))
  refine SW.tknil ?_
  refine SA.take 4 hRB rfl (by kernel_rfl) (by kernel_rfl) rfl ?_
  repeat ((show SW _ _ _ _ (⟨_, Op.load _ _, _, _, _, none⟩ :: _) _ _; refine SW.st (st_load rfl (hb1.cell rfl)) rfl ?_))
  refine SW.tknil ?_
  refine SA.take 5 hRB rfl (by kernel_rfl) (by kernel_rfl) rfl ?_
  repeat ((show SW _ _ _ _ (⟨_, Op.fieldAddr _ _ _, _, _, _, none⟩ :: _) _ _; refine SW.st (st_field rfl) rfl ?_))
  refine SW.tknil ?_
  refine SA.take 6 hRB rfl (by kernel_rfl) (by kernel_rfl) rfl ?_
  repeat ((show SW _ _ _ _ (⟨_, Op.load _ _, _, _, _, none⟩ :: _) _ _; refine SW.st (st_load rfl (hb1.cell rfl)) rfl ?_))
  refine SW.tknil ?_
  refine SA.two 2 9 rfl rfl (by kernel_rfl) rfl rfl ?_ ?_
  ·refine SW.call rfl rfl (CloneInt_ans _ _ _ _ _ (hr.mins.ext hw) (by omega)) fun v w4 hXX hv => ?_
   obtain ⟨X, c4, rfl, hX⟩ := hv
   replace hX := hX.low hw.size
   replace hw := Ext.trans hw hXX
   replace hb1 := hb1.ext hXX
   replace hb2 := hb2.ext hXX
   try replace hb3 := hb3.ext hXX
   refine SW.nil (Post.sa hXX ?_)
   refine SA.two 7 9 rfl rfl (by kernel_rfl) rfl rfl ?_ ?_
   ·refine SW.call rfl rfl (CloneBlock_ans _ _ _ _ _ (hr.live.ext hw) (by omega)) fun v w4 hXX hv => ?_
    obtain ⟨Y, d4, rfl, hY⟩ := hv
    replace hY := hY.low hw.size
    replace hX := hX.ext hXX
    replace hw := Ext.trans hw hXX
    replace hb1 := hb1.ext hXX
    replace hb2 := hb2.ext hXX
    try replace hb3 := hb3.ext hXX
    refine SW.nil (Post.sa hXX ?_)
    refine SA.take 8 hRB rfl (by kernel_rfl) (by kernel_rfl) rfl ?_
    repeat ((show SW _ _ _ _ (⟨_, Op.build _ _, _, _, _, none⟩ :: _) _ _; refine SW.st (st_build rfl rfl) rfl ?_))
    refine SW.tknil ?_
    refine SA.one 9 rfl (by kernel_rfl) rfl ?_
    refine SW.alloc rfl fun b3 w4 hXX hb3b hb3 => ?_
    have hb3w : w.heap.size ≤ b3 := Nat.le_trans hw.size hb3b
    have hne3 : b1 ≠ b3 := by have := hb1.lt; omega
    have hne4 : b2 ≠ b3 := by have := hb2.lt; omega
    replace hw := Ext.trans hw hXX
    replace hb1 := hb1.ext hXX
    replace hb2 := hb2.ext hXX
    try replace hX := hX.ext hXX
    try replace hY := hY.ext hXX
    refine SW.nil (Post.sa hXX ?_)
    refine SA.done (by kernel_rfl) ?_
    skip
    refine SW.storeAgg hb3 rfl rfl rfl rfl (one_h ⟨.nil, ⟨X, r.Mins.n, c4⟩, r.Cpus, .nil, ⟨Y, r.Live.n, d4⟩⟩) fun w5 hR2 hg => ?_
    have hG := hb3.gr hg
    replace hw := hw.own hb3w hg
    (replace hX := hX.grT hG rfl; replace hY := hY.grT hG rfl)
    replace hb1 := hb1.grown hg (by simpa using hne3)
    replace hb2 := hb2.grown hg (by simpa using hne4)
    repeat' (first | (show Post _ _ _ _ _; refine Post.np ?_) | refine SW.nil ?_)
    exact Post.cut (K := K) (by rw [hK]; exact ⟨X, c4, Y, d4, b3, ⟨rfl, rfl, rfl, trivial⟩, hw, hb1, hb2, hR2, hX, hY, hb3w, hne3, hne4⟩)
   ·refine SW.alloc rfl fun b3 w4 hXX hb3b hb3 => ?_
    have hb3w : w.heap.size ≤ b3 := Nat.le_trans hw.size hb3b
    have hne3 : b1 ≠ b3 := by have := hb1.lt; omega
    have hne4 : b2 ≠ b3 := by have := hb2.lt; omega
    replace hw := Ext.trans hw hXX
    replace hb1 := hb1.ext hXX
    replace hb2 := hb2.ext hXX
    try replace hX := hX.ext hXX
    try replace hY := hY.ext hXX
    refine SW.nil (Post.sa hXX ?_)
    refine SA.one 7 rfl (by kernel_rfl) rfl ?_
    refine SW.call rfl rfl (CloneBlock_ans _ _ _ _ _ (hr.live.ext hw) (by omega)) fun v w4 hXX hv => ?_
    obtain ⟨Y, d4, rfl, hY⟩ := hv
    replace hY := hY.low hw.size
    replace hX := hX.ext hXX
    replace hw := Ext.trans hw hXX
    replace hb1 := hb1.ext hXX
    replace hb2 := hb2.ext hXX
    try replace hb3 := hb3.ext hXX
    refine SW.nil (Post.sa hXX ?_)
    refine SA.take 8 hRB rfl (by kernel_rfl) (by kernel_rfl) rfl ?_
    repeat ((show SW _ _ _ _ (⟨_, Op.build _ _, _, _, _, none⟩ :: _) _ _; refine SW.st (st_build rfl rfl) rfl ?_))
    refine SW.tknil ?_
    refine SA.done (by kernel_rfl) ?_
    skip
    refine SW.storeAgg hb3 rfl rfl rfl rfl (one_h ⟨.nil, ⟨X, r.Mins.n, c4⟩, r.Cpus, .nil, ⟨Y, r.Live.n, d4⟩⟩) fun w5 hR2 hg => ?_
    have hG := hb3.gr hg
    replace hw := hw.own hb3w hg
    (replace hX := hX.grT hG rfl; replace hY := hY.grT hG rfl)
    replace hb1 := hb1.grown hg (by simpa using hne3)
    replace hb2 := hb2.grown hg (by simpa using hne4)
    repeat' (first | (show Post _ _ _ _ _; refine Post.np ?_) | refine SW.nil ?_)
    exact Post.cut (K := K) (by rw [hK]; exact ⟨X, c4, Y, d4, b3, ⟨rfl, rfl, rfl, trivial⟩, hw, hb1, hb2, hR2, hX, hY, hb3w, hne3, hne4⟩)
  ·refine SW.alloc rfl fun b3 w4 hXX hb3b hb3 => ?_
   have hb3w : w.heap.size ≤ b3 := Nat.le_trans hw.size hb3b
   have hne3 : b1 ≠ b3 := by have := hb1.lt; omega
   have hne4 : b2 ≠ b3 := by have := hb2.lt; omega
   replace hw := Ext.trans hw hXX
   replace hb1 := hb1.ext hXX
   replace hb2 := hb2.ext hXX
   try replace hX := hX.ext hXX
   try replace hY := hY.ext hXX
   refine SW.nil (Post.sa hXX ?_)
   refine SA.one 2 rfl (by kernel_rfl) rfl ?_
   refine SW.call rfl rfl (CloneInt_ans _ _ _ _ _ (hr.mins.ext hw) (by omega)) fun v w4 hXX hv => ?_
   obtain ⟨X, c4, rfl, hX⟩ := hv
   replace hX := hX.low hw.size
   replace hw := Ext.trans hw hXX
   replace hb1 := hb1.ext hXX
   replace hb2 := hb2.ext hXX
   try replace hb3 := hb3.ext hXX
   refine SW.nil (Post.sa hXX ?_)
   refine SA.one 7 rfl (by kernel_rfl) rfl ?_
   refine SW.call rfl rfl (CloneBlock_ans _ _ _ _ _ (hr.live.ext hw) (by omega)) fun v w4 hXX hv => ?_
   obtain ⟨Y, d4, rfl, hY⟩ := hv
   replace hY := hY.low hw.size
   replace hX := hX.ext hXX
   replace hw := Ext.trans hw hXX
   replace hb1 := hb1.ext hXX
   replace hb2 := hb2.ext hXX
   try replace hb3 := hb3.ext hXX
   refine SW.nil (Post.sa hXX ?_)
   refine SA.take 8 hRB rfl (by kernel_rfl) (by kernel_rfl) rfl ?_
   repeat ((show SW _ _ _ _ (⟨_, Op.build _ _, _, _, _, none⟩ :: _) _ _; refine SW.st (st_build rfl rfl) rfl ?_))
   refine SW.tknil ?_
   refine SA.done (by kernel_rfl) ?_
   skip
   refine SW.storeAgg hb3 rfl rfl rfl rfl (one_h ⟨.nil, ⟨X, r.Mins.n, c4⟩, r.Cpus, .nil, ⟨Y, r.Live.n, d4⟩⟩) fun w5 hR2 hg => ?_
   have hG := hb3.gr hg
   replace hw := hw.own hb3w hg
   (replace hX := hX.grT hG rfl; replace hY := hY.grT hG rfl)
   replace hb1 := hb1.grown hg (by simpa using hne3)
   replace hb2 := hb2.grown hg (by simpa using hne4)
   repeat' (first | (show Post _ _ _ _ _; refine Post.np ?_) | refine SW.nil ?_)
   exact Post.cut (K := K) (by rw [hK]; exact ⟨X, c4, Y, d4, b3, ⟨rfl, rfl, rfl, trivial⟩, hw, hb1, hb2, hR2, hX, hY, hb3w, hne3, hne4⟩)
 ·clear hb1 hb2 hw
  subst hK
  rintro L' w' ⟨X, c4, Y, d4, b3, hsub, hw, hb1, hb2, hb3, hX, hY, hb3w, hne3, hne4⟩
  refine Post.sub hsub ?_
  repeat' (first | (show CW _ _ _ _ _ _; first | refine CW.seq ?_ | refine CW.region ?_ | refine CW.block ?_) | (show Post _ _ _ _ _; refine Post.seq ?_) | refine SW.nil ?_ | refine SW.pure rfl rfl ?_ | (show SW _ _ _ _ (⟨_, Op.fieldAddr _ _ _, _, _, _, none⟩ :: _) _ _; refine SW.st (st_field rfl) rfl ?_) | (show SW _ _ _ _ (⟨_, Op.call ⟨.builtin .len, _, _⟩, _, _, _, none⟩ :: _) _ _; refine SW.st (st_len rfl) rfl ?_) | (show SW _ _ _ _ (⟨_, Op.load _ _, _, _, _, none⟩ :: _) _ _; refine SW.st (st_load rfl (hb1.cell rfl)) rfl ?_))
  refine CW.loop (fun s : Nat × Option Addr × Nat × List ZRow => [(1, .pointer (some ⟨b1, 0, none⟩)), (2, .pointer (some ⟨b2, 0, none⟩)), (3, .pointer (some ⟨b3, 0, none⟩)), (18, .slice r.Zones.A r.Zones.n r.Zones.c), (19, .int .i64 (r.Zones.n : Int)), (20, .int .i64 (s.1 : Int))])
   (fun s w' => s.1 ≤ r.Zones.n ∧ Ext w w' ∧ Blk w' b1 35 (encH r) ∧ Blk w' b2 35 (encH .zero) ∧ Blk w' b3 35 (encH ⟨⟨s.2.1, s.1, s.2.2.1⟩, ⟨X, r.Mins.n, c4⟩, r.Cpus, .nil, ⟨Y, r.Live.n, d4⟩⟩) ∧ Own w' w.heap.size 3 1 encI X r.Mins.n c4 h.Mins ∧ Own w' w.heap.size 55 3 encBk Y r.Live.n d4 h.Live ∧
    OwnZs w' w.heap.size ⟨s.2.1, s.1, s.2.2.1⟩ s.2.2.2 (h.Zones.take s.1) ∧ SepF ⟨Y, r.Live.n, d4⟩ s.2.2.2) (fun s => r.Zones.n - s.1) (0, none, 0, []) ⟨rfl, rfl, rfl, rfl, rfl, rfl, trivial⟩ ⟨by omega, hw, hb1, hb2, hb3, hX, hY, OwnZs.nil _ _, SepF.nil _⟩ ?_
  clear hb1 hb2 hb3 hX hY hw hsub
  rintro ⟨k, A, c, zr⟩ w' ⟨hk, hw, hb1, hb2, hb3, hX, hY, hO, hSf⟩
  simp only at hk hb3 hO hSf ⊢
  have hA := hz.row.base
  by_cases hkn : k < r.Zones.n
  ·have hzk := hz.each.get k (by omega) (by omega)
   have hin : h.Zones[k]'(by omega) ∈ h.Zones := List.getElem_mem _
   have q := hs.free _ hin
   have q1 := hzk.free.len
   have q2 := hzk.types.len
   repeat' (first | (show CW _ _ _ _ _ _; first | refine CW.seq ?_ | refine CW.region ?_ | refine CW.block ?_ | refine CW.condd_t rfl (by omega) ?_ | refine CW.skip ?_) | (show Post _ _ _ _ _; refine Post.seq ?_) | refine SW.nil ?_ | refine SW.pure rfl rfl ?_ | (show SW _ _ _ _ (⟨_, Op.indexAddr _ _ _, _, _, _, none⟩ :: _) _ _; refine SW.st (st_indexN rfl rfl (by assumption) (by omega)) rfl ?_) | (show SW _ _ _ _ (⟨_, Op.load _ _, _, _, _, none⟩ :: _) _ _; refine SW.st (st_loadsx hw rfl rfl ((hz.row.all hkn))) rfl ?_))
   refine SW.alloc rfl fun b5 w1 hw1 hb5b hb5 => ?_
   skip
   refine SW.storeAgg hb5 rfl rfl rfl rfl (one_z _) fun w2 hb5' hg => ?_
   have hXX := hw1.own hb5b hg
   have hb5w : w.heap.size ≤ b5 := Nat.le_trans hw.size hb5b
   replace hw := Ext.trans hw hXX
   replace hb1 := hb1.ext hXX
   replace hb2 := hb2.ext hXX
   replace hb3 := hb3.ext hXX
   replace hX := hX.ext hXX
   replace hY := hY.ext hXX
   replace hO := hO.ext hXX
   replace hb5 := hb5'
   clear hb5' hw1 hg hXX
   repeat' (first | (show Post _ _ _ _ _; refine Post.seq ?_) | refine SW.nil ?_)
   refine CW.any 5 mixed (rb_tail (by kernel_rfl)) rfl fun w1 hw1 hRB => ?_
   replace hw := Ext.trans hw hw1; replace hb1 := hb1.ext hw1; replace hb2 := hb2.ext hw1; replace hb3 := hb3.ext hw1; replace hb5 := hb5.ext hw1; replace hX := hX.ext hw1; replace hY := hY.ext hw1; replace hO := hO.ext hw1; clear hw1
   refine SA.take 0 hRB rfl (by kernel_rfl) (by kernel_rfl) rfl ?_
   repeat ((show SW _ _ _ _ (⟨_, Op.fieldAddr _ _ _, _, _, _, none⟩ :: _) _ _; refine SW.st (st_field rfl) rfl ?_))
   refine SW.tknil ?_
   refine SA.take 1 hRB rfl (by kernel_rfl) (by kernel_rfl) rfl ?_
   repeat ((show SW _ _ _ _ (⟨_, Op.load _ _, _, _, _, none⟩ :: _) _ _; refine SW.st (st_load rfl (hb3.cell rfl)) rfl ?_))
   refine SW.tknil ?_
   refine SA.take 2 hRB rfl (by kernel_rfl) (by kernel_rfl) rfl ?_
   repeat ((show SW _ _ _ _ (⟨_, Op.load _ _, _, _, _, none⟩ :: _) _ _; refine SW.st (st_loads rfl rfl ((fun _ _ => hb5.cell))) rfl ?_))
   refine SW.tknil ?_
   refine SA.one 3 rfl (by kernel_rfl) rfl ?_
   refine SW.call rfl rfl (Zcopy_ans _ _ _ (hzk.ext hw) (by omega) (by omega)) fun v w4 hXX hv => ?_
   obtain ⟨s, rfl, hs', e1, e2⟩ := hv
   have hSf' := hSf.snoc (u := s) hY hs'.free.row_ge
   replace hs' := hs'.low hw.size
   (replace hw := Ext.trans hw hXX; replace hb1 := hb1.ext hXX; replace hb2 := hb2.ext hXX; replace hb3 := hb3.ext hXX; replace hb5 := hb5.ext hXX; replace hX := hX.ext hXX; replace hY := hY.ext hXX; replace hO := hO.ext hXX)
   refine SW.nil (Post.sa hXX ?_)
   refine SA.one 4 rfl (by kernel_rfl) rfl ?_
   refine SW.build1 rfl rfl rfl rfl rfl fun b w4 hXX hb hB => ?_
   (replace hw := Ext.trans hw hXX; replace hb1 := hb1.ext hXX; replace hb2 := hb2.ext hXX; replace hb3 := hb3.ext hXX; replace hb5 := hb5.ext hXX; replace hX := hX.ext hXX; replace hY := hY.ext hXX; replace hO := hO.ext hXX; replace hs' := hs'.ext hXX)
   refine SW.nil (Post.sa hXX ?_)
   refine SA.done (by kernel_rfl) ?_
   refine SW.append hO.row (Blk.sl1 (enc := encZ) hB) hw.size rfl rfl rfl (by simp only; omega) (by simp only; omega) fun A2 c2 w5 hO1 hg => ?_
   have hG := hO.row.gr hg
   replace hw := ext_grown hw hg (Nat.le_refl _) hO.row.row_ge
   (replace hb1 := hb1.grT hG rfl; replace hb2 := hb2.grT hG rfl; replace hb3 := hb3.grT hG rfl; replace hX := hX.grT hG rfl; replace hY := hY.grT hG rfl; replace hs' := hs'.grT hG rfl)
   have hE := hO.each.mono fun _ _ h => h.grT hG rfl
   repeat' ((show SW _ _ _ _ (⟨_, Op.fieldAddr _ _ _, _, _, _, none⟩ :: _) _ _; refine SW.st (st_field rfl) rfl ?_))
   refine SW.storeB (i := 0) hb3 rfl rfl rfl rfl fun w6 hb3' hg => ?_
   have hG := hb3.gr hg
   replace hw := hw.own hb3w hg
   replace hb1 := hb1.grown hg (by simpa using hne3)
   replace hb2 := hb2.grown hg (by simpa using hne4)
   (replace hX := hX.grT hG rfl; replace hY := hY.grT hG rfl; replace hs' := hs'.grT hG rfl; replace hO1 := hO1.grT hG rfl)
   replace hE := hE.mono fun _ _ h => h.grT hG rfl
   repeat' (first | (show CW _ _ _ _ _ _; refine CW.region ?_) | (show Post _ _ _ _ _; first | refine Post.seq ?_ | refine Post.blk ?_ | refine Post.np ?_) | refine SW.nil ?_ | refine SW.pure rfl rfl ?_ | (show SW _ _ _ _ (⟨_, Op.binOp _ _ _ _ _, _, _, _, none⟩ :: _) _ _; refine SW.st (st_add rfl rfl (by omega) (by omega)) rfl ?_))
   refine Post.again (k + 1, A2, c2, zr ++ [s]) ⟨rfl, rfl, rfl, rfl, rfl, rfl, trivial⟩ (by simp only; omega) ⟨by simp only; omega, hw, hb1, hb2, hb3', hX, hY, ⟨hO1, ?_⟩, hSf'⟩
   rw [List.take_succ_eq_append_getElem (by omega)]
   exact hE.snoc hs'
  ·obtain rfl : k = r.Zones.n := by omega
   rw [List.take_of_length_le (by omega)] at hO
   repeat' (first | (show CW _ _ _ _ _ _; first | refine CW.seq ?_ | refine CW.region ?_ | refine CW.block ?_ | refine CW.condd_f rfl (by omega) ?_ | refine CW.exit ?_) | (show Post _ _ _ _ _; first | refine Post.seq ?_ | refine Post.seq_exit ?_ | refine Post.hit ?_ | refine Post.again_exit ?_) | refine SW.nil ?_ | refine SW.pure rfl rfl ?_ | (show SW _ _ _ _ (⟨_, Op.fieldAddr _ _ _, _, _, _, none⟩ :: _) _ _; refine SW.st (st_field rfl) rfl ?_) | (show SW _ _ _ _ (⟨_, Op.call ⟨.builtin .len, _, _⟩, _, _, _, none⟩ :: _) _ _; refine SW.st (st_len rfl) rfl ?_) | (show SW _ _ _ _ (⟨_, Op.load _ _, _, _, _, none⟩ :: _) _ _; refine SW.st (st_load rfl (hb1.cell rfl)) rfl ?_))
   refine CW.loop (fun s : Nat × Option Addr × Nat × List LRow => [(2, .pointer (some ⟨b2, 0, none⟩)), (3, .pointer (some ⟨b3, 0, none⟩)), (33, .slice r.Lists.A r.Lists.n r.Lists.c), (34, .int .i64 (r.Lists.n : Int)), (35, .int .i64 (s.1 : Int))])
    (fun s w' => s.1 ≤ r.Lists.n ∧ Ext w w' ∧ Blk w' b2 35 (encH .zero) ∧ Blk w' b3 35 (encH ⟨⟨A, r.Zones.n, c⟩, ⟨X, r.Mins.n, c4⟩, r.Cpus, ⟨s.2.1, s.1, s.2.2.1⟩, ⟨Y, r.Live.n, d4⟩⟩) ∧ Own w' w.heap.size 3 1 encI X r.Mins.n c4 h.Mins ∧ Own w' w.heap.size 55 3 encBk Y r.Live.n d4 h.Live ∧
     OwnZs w' w.heap.size ⟨A, r.Zones.n, c⟩ zr h.Zones ∧ OwnLs w' w.heap.size ⟨s.2.1, s.1, s.2.2.1⟩ s.2.2.2 (h.Lists.take s.1) ∧ SepM ⟨X, r.Mins.n, c4⟩ zr s.2.2.2) (fun s => r.Lists.n - s.1) (0, none, 0, []) ⟨rfl, rfl, rfl, rfl, rfl, trivial⟩ ⟨by omega, hw, hb2, hb3, hX, hY, hO, OwnLs.nil _ _, SepM.nil _ _⟩ ?_
   clear hb1 hb2 hb3 hX hY hw hO
   rintro ⟨k, B, d, lr⟩ w' ⟨hk, hw, hb2, hb3, hX, hY, hO, hP, hSp⟩
   simp only at hk hb3 hP hSp ⊢
   have hA := hl.row.base
   by_cases hkn : k < r.Lists.n
   ·have hlk := hl.each.get k (by omega) (by omega)
    have hin : h.Lists[k]'(by omega) ∈ h.Lists := List.getElem_mem _
    have q := hs.pages _ hin
    have q1 := hlk.pages.len
    repeat' (first | (show CW _ _ _ _ _ _; first | refine CW.seq ?_ | refine CW.region ?_ | refine CW.block ?_ | refine CW.condd_t rfl (by omega) ?_ | refine CW.skip ?_) | (show Post _ _ _ _ _; refine Post.seq ?_) | refine SW.nil ?_ | refine SW.pure rfl rfl ?_ | (show SW _ _ _ _ (⟨_, Op.indexAddr _ _ _, _, _, _, none⟩ :: _) _ _; refine SW.st (st_indexN rfl rfl (by assumption) (by omega)) rfl ?_) | (show SW _ _ _ _ (⟨_, Op.load _ _, _, _, _, none⟩ :: _) _ _; refine SW.st (st_loadsx hw rfl rfl ((hl.row.all hkn))) rfl ?_))
    have hlt7 := hP.row.lt_size
    refine SW.alloc rfl fun b7 w1 hw1 hb7b hb7 => ?_
    skip
    refine SW.storeAgg hb7 rfl rfl rfl rfl (one_l _) fun w2 hb7' hg => ?_
    have hXX := hw1.own hb7b hg
    have hb7w : w.heap.size ≤ b7 := Nat.le_trans hw.size hb7b
    replace hw := Ext.trans hw hXX
    replace hb2 := hb2.ext hXX
    replace hb3 := hb3.ext hXX
    replace hX := hX.ext hXX
    replace hY := hY.ext hXX
    replace hO := hO.ext hXX
    replace hP := hP.ext hXX
    replace hb7 := hb7'
    clear hb7' hw1 hg hXX
    repeat' (first | (show CW _ _ _ _ _ _; first | refine CW.seq ?_ | refine CW.region ?_) | (show Post _ _ _ _ _; refine Post.seq ?_) | refine SW.nil ?_ | (show SW _ _ _ _ (⟨_, Op.fieldAddr _ _ _, _, _, _, none⟩ :: _) _ _; refine SW.st (st_field rfl) rfl ?_) | (show SW _ _ _ _ (⟨_, Op.load _ _, _, _, _, none⟩ :: _) _ _; refine SW.st (st_load rfl (hb7.cell rfl)) rfl ?_))
    refine SW.call rfl rfl (CloneInt_ans _ _ _ _ _ (hlk.pages.ext hw) (by omega)) fun v w4 hXX hv => ?_
    obtain ⟨W, e4, rfl, hW⟩ := hv
    replace hSp := hSp.snoc (y := ⟨ls[k].Cpu, ls[k].Zone, ls[k].Ty, ⟨W, ls[k].Pages.n, e4⟩⟩) hX hO hP hW.row_ge
    replace hW := hW.low hw.size
    (replace hw := Ext.trans hw hXX; replace hb2 := hb2.ext hXX; replace hb3 := hb3.ext hXX; replace hb7 := hb7.ext hXX; replace hX := hX.ext hXX; replace hY := hY.ext hXX; replace hO := hO.ext hXX; replace hP := hP.ext hXX)
    repeat' ((show SW _ _ _ _ (⟨_, Op.fieldAddr _ _ _, _, _, _, none⟩ :: _) _ _; refine SW.st (st_field rfl) rfl ?_))
    refine SW.storeB (i := 3) hb7 rfl rfl rfl rfl fun w5 hb7' hg => ?_
    have hG := hb7.gr hg
    replace hw := hw.own hb7w hg
    (replace hb2 := hb2.grT hG rfl; replace hb3 := hb3.grT hG rfl; replace hX := hX.grT hG rfl; replace hY := hY.grT hG rfl; replace hO := hO.grT hG rfl; replace hW := hW.grT hG rfl)
    replace hP : OwnLs w5 w.heap.size ⟨B, k, d⟩ lr (h.Lists.take k) := ⟨hP.row.grown hg (.inr (fun e => by have := hlt7 _ e; omega)), hP.each.mono fun _ _ h => h.grT hG rfl⟩
    repeat' (first | (show CW _ _ _ _ _ _; refine CW.region ?_) | (show Post _ _ _ _ _; refine Post.seq ?_) | refine SW.nil ?_ | (show SW _ _ _ _ (⟨_, Op.fieldAddr _ _ _, _, _, _, none⟩ :: _) _ _; refine SW.st (st_field rfl) rfl ?_) | (show SW _ _ _ _ (⟨_, Op.load _ _, _, _, _, none⟩ :: _) _ _; first | refine SW.st (st_load rfl (hb3.cell rfl)) rfl ?_ | refine SW.st (st_loads rfl rfl ((fun _ _ => hb7'.cell))) rfl ?_))
    refine SW.build1 rfl rfl rfl rfl rfl fun b w6 hXX hb hB => ?_
    (replace hw := Ext.trans hw hXX; replace hb2 := hb2.ext hXX; replace hb3 := hb3.ext hXX; replace hX := hX.ext hXX; replace hY := hY.ext hXX; replace hO := hO.ext hXX; replace hP := hP.ext hXX; replace hW := hW.ext hXX)
    refine SW.append hP.row (Blk.sl1 (enc := encL) (x := ⟨ls[k].Cpu, ls[k].Zone, ls[k].Ty, ⟨W, _, e4⟩⟩) hB) hw.size rfl rfl rfl (by simp only; omega) (by simp only; omega) fun A2 c2 w7 hP1 hg => ?_
    have hG := hP.row.gr hg
    replace hw := ext_grown hw hg (Nat.le_refl _) hP.row.row_ge
    (replace hb2 := hb2.grT hG rfl; replace hb3 := hb3.grT hG rfl; replace hX := hX.grT hG rfl; replace hY := hY.grT hG rfl; replace hO := hO.grT hG rfl; replace hW := hW.grT hG rfl)
    have hE := hP.each.mono fun _ _ h => h.grT hG rfl
    repeat' ((show SW _ _ _ _ (⟨_, Op.fieldAddr _ _ _, _, _, _, none⟩ :: _) _ _; refine SW.st (st_field rfl) rfl ?_))
    refine SW.storeB (i := 3) hb3 rfl rfl rfl rfl fun w8 hb3' hg => ?_
    have hG := hb3.gr hg
    replace hw := hw.own hb3w hg
    replace hb2 := hb2.grown hg (by simpa using hne4)
    (replace hX := hX.grT hG rfl; replace hY := hY.grT hG rfl; replace hO := hO.grT hG rfl; replace hP1 := hP1.grT hG rfl; replace hW := hW.grT hG rfl)
    replace hE := hE.mono fun _ _ h => h.grT hG rfl
    repeat' (first | (show CW _ _ _ _ _ _; refine CW.region ?_) | (show Post _ _ _ _ _; first | refine Post.seq ?_ | refine Post.blk ?_) | refine SW.nil ?_ | refine SW.pure rfl rfl ?_ | (show SW _ _ _ _ (⟨_, Op.binOp _ _ _ _ _, _, _, _, none⟩ :: _) _ _; refine SW.st (st_add rfl rfl (by omega) (by omega)) rfl ?_))
    refine Post.again (k + 1, A2, c2, lr ++ [⟨ls[k].Cpu, ls[k].Zone, ls[k].Ty, ⟨W, _, e4⟩⟩]) ⟨rfl, rfl, rfl, rfl, rfl, trivial⟩ (by simp only; omega) ⟨by simp only; omega, hw, hb2, hb3', hX, hY, hO, ⟨hP1, ?_⟩, hSp⟩
    rw [List.take_succ_eq_append_getElem (by omega)]
    exact hE.snoc ⟨hlk.cpu, hlk.zone, hlk.ty, hW⟩
   ·obtain rfl : k = r.Lists.n := by omega
    rw [List.take_of_length_le (by omega)] at hP
    repeat' (first | (show CW _ _ _ _ _ _; first | refine CW.seq ?_ | refine CW.region ?_ | refine CW.condd_f rfl (by omega) ?_ | refine CW.exit ?_) | (show Post _ _ _ _ _; first | refine Post.seq ?_ | refine Post.seq_exit ?_ | refine Post.hit ?_ | refine Post.again_exit ?_) | refine SW.nil ?_ | refine SW.pure rfl rfl ?_ | (show SW _ _ _ _ (⟨_, Op.load _ _, _, _, _, none⟩ :: _) _ _; refine SW.st (st_loads rfl rfl ((fun _ _ => hb3.cell))) rfl ?_))
    refine SW.storeAgg hb2 rfl rfl rfl rfl (one_h _) fun w5 hR2 hg => ?_
    have hG := hb2.gr hg
    replace hw := hw.own hb2w hg
    (replace hX := hX.grT hG rfl; replace hY := hY.grT hG rfl; replace hO := hO.grT hG rfl; replace hP := hP.grT hG rfl)
    repeat' (first | (show CW _ _ _ _ _ _; refine CW.ret ?_) | (show Post _ _ _ _ _; refine Post.seq ?_) | refine SW.nil ?_)
    exact Post.ret1c rfl rfl hR2 rfl ⟨_, rfl, hw, ⟨⟨A, r.Zones.n, c⟩, ⟨X, r.Mins.n, c4⟩, r.Cpus, ⟨B, r.Lists.n, d⟩, ⟨Y, r.Live.n, d4⟩⟩, rfl, ⟨hr.cpus, hX, hY, ⟨zr, hO⟩, ⟨lr, hP⟩⟩, zr, lr, hO, hP, hSp, hSf⟩
end Go.Proofs.YtfommgdbahemfaaDoor
set_option linter.unusedVariables false
namespace Go.Proofs.YtfommgdbahemfaaDoor
open Go.RowKit
section
variable {P : Program} {n : Nat} {ops : Array Oper} {Q : Exit → Act → World → Prop} {rest : List Oper} {L : Env} {w : World} {d : Nat} {T : TypeId} {pos : String} {af : Array Edge}
end
section
variable {α : Type} {P : Program} {w : World} {lo : Nat} {t e : TypeId} {z : Value} {sz bytes : Nat} {enc : α → List Value} {A X : Option Addr} {n c m d : Nat} {l ys : List α}
theorem run_append2 [S : SliceTy P t e sz] [T : ElemTy P e z sz bytes] [E : Enc enc sz] (ty : TypeId) (hO : Own w lo e sz enc A n c l) (hS : Sl w sz enc X m ys) (hlo : lo ≤ w.heap.size) (hm0 : 0 < m)
  (hb : (n + m) * bytes ≤ 140737488355328) (hm : n + m ≤ maxLen) :
  ∃ A' c' w', (Builtin.append_ #[t, t] ty #[.slice A n c, .slice X m d]).run P w = .ok (.slice A' (n + m) c') w' ∧
   ((A' = A ∧ c' = c ∧ Own w' lo e sz enc A (n + m) c (l ++ ys) ∧ w.grownBy w' (ownB A c)) ∨ (Own w' w.heap.size e sz enc A' (n + m) c' (l ++ ys) ∧ w.grownBy w' none)) := by
 obtain ⟨i, hi, hz, hs, hby⟩ := elem_parts P e (z := z) (sz := sz) (bytes := bytes)
 have hyl : (ys.flatMap enc).length = m * sz := by rw [length_flatMap_enc, hS.len]
 have hone : ∀ u ∈ ys.flatMap enc, u.oneCell' = true := fun u hu => by
  obtain ⟨x, _, hx⟩ := List.mem_flatMap.1 hu
  exact E.one x u hx
 have hcat : (l ++ ys).flatMap enc = l.flatMap enc ++ ys.flatMap enc := List.flatMap_append
 have hll : (l ++ ys).length = n + m := by rw [List.length_append, hO.len, hS.len]
 obtain ⟨ad, rfl⟩ := Option.isSome_iff_exists.1 (hS.base hm0)
 have hnews := cells_flatMap T.pos hS
 have hll' : (l.flatMap enc).length = n * sz := by rw [length_flatMap_enc, hO.len]
 have big : ∀ b, A = some b → c < n + m → (∀ j u, (l.flatMap enc)[j]? = some u → w.cell? (b.add j) = some u) →
   ∃ A' c' w', (Builtin.append_ #[t, t] ty #[.slice A n c, .slice (some ad) m d]).run P w = .ok (.slice A' (n + m) c') w' ∧ (Own w' w.heap.size e sz enc A' (n + m) c' (l ++ ys) ∧ w.grownBy w' none) := by
  rintro b rfl hlt hold
  obtain ⟨v', w', hr, h2, h3⟩ := run_append_arg_grows (P := P) w t ty e i z sz bytes S.und hi hz hs hby T.zc T.pos b n c (l.flatMap enc) hll' hold ad m d (ys.flatMap enc) hyl hnews hlt hm hb
  rw [← hcat] at h2
  obtain ⟨A', c', rfl, ho⟩ := Own.of_owns h2 hll
  exact ⟨A', c', w', hr, ho, h3⟩
 rcases hO.row with ⟨rfl, rfl⟩ | ⟨hc, g, cur, rfl, hg1, hg2, hg3, hg4, hg5, hg6⟩
 ·have hl : l = [] := List.eq_nil_of_length_eq_zero hO.len
  subst hl
  cases A with
  | none =>
   obtain ⟨v', w', hr, h2, h3, _⟩ := run_append_own (P := P) w w.heap.size t ty e i z sz bytes S.und hi hz hs hby T.zc T.pos (.slice none 0 0) 0 [] (World.ownsRow_nil _ _ _ _) ad m d (ys.flatMap enc) hyl hnews hone hm hb (Nat.le_refl _)
   obtain ⟨A', c', rfl, ho⟩ := Own.of_owns (m := 0 + m) (l := [] ++ ys) (enc := enc) (by simpa using h2) (by simpa using hS.len)
   exact ⟨A', c', w', hr, .inr ⟨ho, by simpa [Value.ownBlock] using h3⟩⟩
  | some b =>
   obtain ⟨A', c', w', hr, h⟩ := big b rfl (by omega) (by simp)
   exact ⟨A', c', w', hr, .inr h⟩
 ·by_cases hroom : n + m ≤ c
  ·obtain ⟨A', c', w', hr, h1, h2⟩ := run_append_gen (P := P) (t := t) ty hO hS (d := d) hlo hb hm
   have hr' := run_append_room (P := P) w t ty e i S.und hi g n c cur hg2 ad m d (ys.flatMap enc) (by rw [hs]; exact hyl) hnews hone hroom (by rw [hs, hyl, hg5, ← Nat.add_mul]; exact Nat.mul_le_mul_right _ hroom)
   have he := hr.symm.trans hr'
   injection he with he _
   injection he with e1 _ e3
   subst e1 e3
   exact ⟨_, _, w', hr, .inl ⟨rfl, rfl, h1, h2⟩⟩
  ·obtain ⟨A', c', w', hr, h⟩ := big ⟨g, 0, none⟩ rfl (by omega) ((hO.owns hc).cells (g := g) (by simp [Value.ownBlock]))
   exact ⟨A', c', w', hr, .inr h⟩
end
theorem SW.append2 {α : Type} {P : Program} {n : Nat} {ops : Array Oper} {Q : Exit → Act → World → Prop} {rest : List Oper} {L : Env} {w : World} {dd : Nat} {T : TypeId} {pos : String} {af : Array Edge}
  {lo : Nat} {t e : TypeId} {z : Value} {sz bytes : Nat} {enc : α → List Value} {A X : Option Addr} {k c m c2 : Nat} {l ys : List α} [SliceTy P t e sz] [ElemTy P e z sz bytes] [Enc enc sz] {x y : Operand}
  (hO : Own w lo e sz enc A k c l) (hS : Sl w sz enc X m ys) (hlo : lo ≤ w.heap.size) (hm0 : 0 < m) (hx : opv L x = some (.slice A k c)) (hy : opv L y = some (.slice X m c2)) (hn : Nat.blt dd n = true)
  (hb : (k + m) * bytes ≤ 140737488355328) (hm : k + m ≤ 9223372036854775807)
  (h : ∀ A' c' w', ((A' = A ∧ c' = c ∧ Own w' lo e sz enc A (k + m) c (l ++ ys) ∧ w.grownBy w' (ownB A c)) ∨ (Own w' w.heap.size e sz enc A' (k + m) c' (l ++ ys) ∧ w.grownBy w' none)) → SW P n ops (.eff Q) rest ((dd, .slice A' (k + m) c') :: L) w') :
  SW P n ops (.eff Q) (⟨some dd, .call ⟨.builtin .append, #[x, y], #[t, t]⟩, T, pos, af, none⟩ :: rest) L w :=
 ⟨fun a ha => by
  obtain ⟨A', c', w', hr, h1⟩ := run_append2 (P := P) (t := t) T hO hS (d := c2) hlo hm0 hb (by simp only [maxLen]; omega)
  simp only [swp, wpList, Region.wanted, if_true]
  refine .inl ?_
  unfold Oper.wp
  have : (execOp a.eval ⟨some dd, .call ⟨.builtin .append, #[x, y], #[t, t]⟩, T, pos, af, none⟩).run P w = .ok (.value (.slice A' (k + m) c')) w' := by
   simp [execOp, resolve, invoke, builtin, ha.eval hx, ha.eval hy, hr]
  rw [this, Oper.upon_value]
  exact (h A' c' w' h1).out _ (ha.put hn _)⟩
end Go.Proofs.YtfommgdbahemfaaDoor
