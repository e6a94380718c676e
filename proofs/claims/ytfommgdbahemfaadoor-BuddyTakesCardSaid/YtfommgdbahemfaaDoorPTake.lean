/-
  Plain law: a block is taken from a zone (P3.7, P3.8).
-/
import Derived.Test.YtfommgdbahemfaaDoorPBack
import Derived.Test.YtfommgdbahemfaaDoorZ1
set_option linter.unusedVariables false
namespace Go.Proofs.YtfommgdbahemfaaDoor

def isOT (o t : Int) (b : Block) : Bool := decide (b.Order = o) && decide (b.Ty = t)
theorem isOT_iff {o t : Int} {b : Block} : isOT o t b = true ↔ b.Order = o ∧ b.Ty = t := by simp [isOT]
def oth1 (t : Int) : Int := if t = 2 then 0 else 2
def oth2 (t : Int) : Int := if t = 1 then 0 else 1
/-- the orders and types in which a block is looked for -/
def ordN (o : Int) (n : Nat) : Int := if n < 5 then o + n else 4 - (((n - 5) / 2 : Nat) : Int)
def tyN (t : Int) (n : Nat) : Int := if n < 5 then t else if (n - 5) % 2 = 0 then oth1 t else oth2 t
def testN (l : List Block) (o t : Int) (n : Nat) : Bool := decide (o ≤ ordN o n ∧ ordN o n ≤ 4) && l.any (isOT (ordN o n) (tyN t n))
theorem ord_own {o : Int} {j : Nat} (h : j < 5) : ordN o j = o + j := by unfold ordN; rw [if_pos h]
theorem ord_fst {o : Int} {j : Nat} : ordN o (5 + 2 * j) = 4 - (j : Int) := by unfold ordN; rw [if_neg (by omega)]; omega
theorem ord_snd {o : Int} {j : Nat} : ordN o (5 + 2 * j + 1) = 4 - (j : Int) := by unfold ordN; rw [if_neg (by omega)]; omega
theorem ty_own {t : Int} {j : Nat} (h : j < 5) : tyN t j = t := by unfold tyN; rw [if_pos h]
theorem ty_fst {t : Int} {j : Nat} : tyN t (5 + 2 * j) = oth1 t := by unfold tyN; rw [if_neg (by omega), if_pos (by omega)]
theorem ty_snd {t : Int} {j : Nat} : tyN t (5 + 2 * j + 1) = oth2 t := by unfold tyN; rw [if_neg (by omega), if_neg (by omega)]
theorem test_own {l : List Block} {o t : Int} {j : Nat} (h : j < 5) (ho : o + j ≤ 4) : testN l o t j = l.any (isOT (o + j) t) := by
  unfold testN
  rw [ord_own h, ty_own h, decide_eq_true (by omega), Bool.true_and]
theorem test_fst {l : List Block} {o t : Int} {j : Nat} (ho : o ≤ 4 - (j : Int)) : testN l o t (5 + 2 * j) = l.any (isOT (4 - (j : Int)) (oth1 t)) := by
  unfold testN
  rw [ord_fst, ty_fst, decide_eq_true (by omega), Bool.true_and]
theorem test_snd {l : List Block} {o t : Int} {j : Nat} (ho : o ≤ 4 - (j : Int)) : testN l o t (5 + 2 * j + 1) = l.any (isOT (4 - (j : Int)) (oth2 t)) := by
  unfold testN
  rw [ord_snd, ty_snd, decide_eq_true (by omega), Bool.true_and]
theorem test_off {l : List Block} {o t : Int} {n : Nat} (h : ¬ (o ≤ ordN o n ∧ ordN o n ≤ 4)) : testN l o t n = false := by
  unfold testN
  rw [decide_eq_false h, Bool.false_and]
/-- which block is taken; true: it is one of another type -/
inductive PickR (l : List Block) (o t : Int) : Option (Nat × Bool) → Prop
  | hit {n k : Nat} (hn : n < 15) (ht : testN l o t n = true) (hf : ∀ m, m < n → testN l o t m = false) (hk : k < l.length) (hp : isOT (ordN o n) (tyN t n) l[k] = true) (hg : ∀ (j : Nat) (hj : j < l.length), j < k → isOT (ordN o n) (tyN t n) l[j] = false) : PickR l o t (some (k, decide (5 ≤ n)))
  | miss (hf : ∀ m, m < 15 → testN l o t m = false) : PickR l o t none
theorem PickR.det {l : List Block} {o t : Int} {u v : Option (Nat × Bool)} (a : PickR l o t u) (b : PickR l o t v) : u = v := by
  cases a with
  | @hit n k hn ht hf hk hp hg =>
    cases b with
    | @hit n' k' hn' ht' hf' hk' hp' hg' =>
      rcases Nat.lt_trichotomy n n' with h | h | h
      · rw [hf' n h] at ht; cases ht
      · subst h
        rcases Nat.lt_trichotomy k k' with h | h | h
        · rw [hg' k hk h] at hp; cases hp
        · subst h; rfl
        · rw [hg k' hk' h] at hp'; cases hp'
      · rw [hf n' h] at ht'; cases ht'
    | miss hf' => rw [hf' n hn] at ht; cases ht
  | miss hf =>
    cases b with
    | @hit n' k' hn' ht' hf' hk' hp' hg' => rw [hf n' hn'] at ht'; cases ht'
    | miss => rfl
theorem PickR.ord {l : List Block} {o t : Int} {k : Nat} {s : Bool} (a : PickR l o t (some (k, s))) : ∃ hk : k < l.length, o ≤ l[k].Order ∧ l[k].Order ≤ 4 := by
  cases a with
  | hit hn ht hf hk hp hg =>
    refine ⟨hk, ?_⟩
    unfold testN at ht
    rw [Bool.and_eq_true] at ht
    have h1 := of_decide_eq_true ht.1
    have h2 := (isOT_iff.1 hp).1
    omega

/-- a block of a group that has got another type -/
def stB (f to t : Int) (x : Block) : Block := if f ≤ x.At ∧ x.At + pw x.Order ≤ to then ⟨x.At, x.Order, t⟩ else x
def stTo (b : Block) : Int := if b.Order = 4 then b.At + 16 else b.At / 8 * 8 + 8
def stFree (l : List Block) (b : Block) (t : Int) : List Block := if b.Order < 2 then l else l.map (stB (b.At / 8 * 8) (stTo b) t)
def stIdx (z : Zone) (b : Block) : Nat := ((b.At - z.From) / 8).toNat
def stTypes (z : Zone) (b : Block) (t : Int) : List Int := if b.Order < 2 then z.Types else if b.Order = 4 then (z.Types.set (stIdx z b) t).set (stIdx z b + 1) t else z.Types.set (stIdx z b) t
theorem stB_at (f to t : Int) (x : Block) : (stB f to t x).At = x.At ∧ (stB f to t x).Order = x.Order := by
  unfold stB; split <;> exact ⟨rfl, rfl⟩
theorem stFree_len (l : List Block) (b : Block) (t : Int) : (stFree l b t).length = l.length := by unfold stFree; split <;> simp
theorem stFree_get {l : List Block} {b : Block} {t : Int} {k : Nat} (hk : k < l.length) : ((stFree l b t)[k]'(by rw [stFree_len]; exact hk)).At = l[k].At ∧ ((stFree l b t)[k]'(by rw [stFree_len]; exact hk)).Order = l[k].Order := by
  unfold stFree
  split
  · exact ⟨rfl, rfl⟩
  · simp only [List.getElem_map]
    exact stB_at _ _ _ _
theorem stFree_ups {l : List Block} {b : Block} {t : Int} (h : ups l) : ups (stFree l b t) := by
  unfold stFree
  split
  · exact h
  · unfold ups at *
    rw [List.pairwise_map]
    refine h.imp fun {x y} hxy => ?_
    rw [(stB_at _ _ _ x).1, (stB_at _ _ _ x).2, (stB_at _ _ _ y).1]
    exact hxy
theorem stFree_blk {f u : Int} {l : List Block} {b : Block} {t : Int} (h : ∀ x ∈ l, blkOk f u x) (ht : tyOk t) : ∀ x ∈ stFree l b t, blkOk f u x := by
  unfold stFree
  split
  · exact h
  · intro x hx
    obtain ⟨y, hy, rfl⟩ := List.mem_map.1 hx
    have hk := h y hy
    unfold blkOk at *
    rw [(stB_at _ _ _ y).1, (stB_at _ _ _ y).2]
    refine ⟨hk.1, ?_⟩
    unfold stB
    split
    · exact ht
    · exact hk.2
/-- halves of a block are laid into the list -/
def halfB (ty a q : Int) : Block := ⟨a + pw (q - 1), q - 1, ty⟩
def halfL (ty a q : Int) (l : List Block) : List Block := insAt l (lbOf l (a + pw (q - 1))) (halfB ty a q)
def splitL (ty a : Int) : Nat → Int → List Block → List Block
  | 0, _, l => l
  | f + 1, q, l => splitL ty a f (q - 1) (halfL ty a q l)
def tySt (z : Zone) (t : Int) (st : Bool) (b : Block) : Int := if st = true ∧ 2 ≤ b.Order then t else b.Ty
def takenZ (z : Zone) (o t : Int) (b : Block) (k : Nat) (st : Bool) : Zone :=
  ⟨z.From, z.To, splitL (tySt z t st b) b.At (b.Order - o).toNat b.Order ((if st = true then stFree z.Free b t else z.Free).eraseIdx k), if st = true then stTypes z b t else z.Types⟩
/-- what buddy.Take answers -/
inductive TakeR (z : Zone) (o t : Int) : Zone × Int × Int → Prop
  | bad (h : zoneB z = false) : TakeR z o t (.zero, 0, 8)
  | range (h : zoneB z = true) (ho : ¬ (0 ≤ o ∧ o ≤ 4)) : TakeR z o t (.zero, 0, 1)
  | kind (h : zoneB z = true) (ho : 0 ≤ o ∧ o ≤ 4) (ht : ¬ tyOk t) : TakeR z o t (.zero, 0, 2)
  | room (h : zoneB z = true) (ho : 0 ≤ o ∧ o ≤ 4) (ht : tyOk t) (hp : PickR z.Free o t none) : TakeR z o t (.zero, 0, 6)
  | ok {k : Nat} {st : Bool} (h : zoneB z = true) (ho : 0 ≤ o ∧ o ≤ 4) (ht : tyOk t) (hk : k < z.Free.length) (hp : PickR z.Free o t (some (k, st))) : TakeR z o t (takenZ z o t z.Free[k] k st, z.Free[k].At, 0)
theorem TakeR.det {z : Zone} {o t : Int} {u v : Zone × Int × Int} (a : TakeR z o t u) (b : TakeR z o t v) : u = v := by
  cases a with
  | bad h => cases b with
    | bad => rfl
    | range h' | kind h' | room h' | ok h' => rw [h] at h'; cases h'
  | range h ho => cases b with
    | bad h' => rw [h] at h'; cases h'
    | range => rfl
    | kind _ ho' | room _ ho' | ok _ ho' => exact absurd ho' ho
  | kind h ho ht => cases b with
    | bad h' => rw [h] at h'; cases h'
    | range _ ho' => exact absurd ho ho'
    | kind => rfl
    | room _ _ ht' | ok _ _ ht' => exact absurd ht' ht
  | room h ho ht hp => cases b with
    | bad h' => rw [h] at h'; cases h'
    | range _ ho' => exact absurd ho ho'
    | kind _ _ ht' => exact absurd ht ht'
    | room => rfl
    | ok _ _ _ _ hp' => cases hp.det hp'
  | ok h ho ht hk hp => cases b with
    | bad h' => rw [h] at h'; cases h'
    | range _ ho' => exact absurd ho ho'
    | kind _ _ ht' => exact absurd ht ht'
    | room _ _ _ hp' => cases hp.det hp'
    | ok _ _ _ _ hp' => cases hp.det hp'; rfl
theorem mem_insAt {α : Type} {l : List α} {i : Nat} {x y : α} : y ∈ insAt l i x ↔ y = x ∨ y ∈ l := by
  have e : l = l.take i ++ l.drop i := (List.take_append_drop i l).symm
  unfold insAt
  constructor
  · intro h
    simp only [List.mem_append, List.mem_singleton] at h
    rcases h with (h | h) | h
    · exact .inr (List.mem_of_mem_take h)
    · exact .inl h
    · exact .inr (List.mem_of_mem_drop h)
  · intro h
    simp only [List.mem_append, List.mem_singleton]
    rcases h with h | h
    · exact .inl (.inr h)
    · rw [e, List.mem_append] at h
      rcases h with h | h
      · exact .inl (.inl h)
      · exact .inr h
theorem ups_insAt {f t : Int} {l : List Block} {y : Block} (hu : ups l) (hb : ∀ b ∈ l, blkOk f t b) (hy : 0 ≤ y.Order ∧ y.Order ≤ 4) (hd : ∀ b ∈ l, b.At + pw b.Order ≤ y.At ∨ y.At + pw y.Order ≤ b.At) : ups (insAt l (lbOf l y.At) y) := by
  have e : l = l.take (lbOf l y.At) ++ l.drop (lbOf l y.At) := (List.take_append_drop _ l).symm
  have h0 := hu
  unfold ups at h0
  rw [e, List.pairwise_append] at h0
  obtain ⟨h1, h2, h3⟩ := h0
  have hA : ∀ x ∈ l.take (lbOf l y.At), x.At + pw x.Order ≤ y.At := fun x hx => by
    obtain ⟨j, hj, rfl⟩ := List.getElem_of_mem hx
    simp only [List.length_take] at hj
    rw [List.getElem_take]
    have hlt := lb_below (l := l) (a := y.At) (k := j) (by omega)
    have hp := pw_le hy.1 hy.2
    rcases hd _ (List.getElem_mem (show j < l.length by omega)) with h | h <;> omega
  have hB : ∀ x ∈ l.drop (lbOf l y.At), y.At + pw y.Order ≤ x.At := fun x hx => by
    obtain ⟨j, hj, rfl⟩ := List.getElem_of_mem hx
    simp only [List.length_drop] at hj
    rw [List.getElem_drop]
    have hge := lb_at (l := l) (a := y.At) (by omega)
    have hle : (l[lbOf l y.At]'(by omega)).At ≤ (l[lbOf l y.At + j]'(by omega)).At := by
      rcases Nat.eq_zero_or_pos j with rfl | hj0
      · exact Int.le_refl _
      · have := ups_get hu (show lbOf l y.At + j < l.length by omega) (show lbOf l y.At < lbOf l y.At + j by omega)
        have := pw_le (hb _ (List.getElem_mem (show lbOf l y.At < l.length by omega))).1.1 (hb _ (List.getElem_mem (show lbOf l y.At < l.length by omega))).1.2.1
        omega
    have hm := List.getElem_mem (show lbOf l y.At + j < l.length by omega)
    have := pw_le (hb _ hm).1.1 (hb _ hm).1.2.1
    rcases hd _ hm with h | h <;> omega
  unfold insAt ups
  rw [List.append_assoc, List.pairwise_append]
  refine ⟨h1, ?_, fun a ha b hb' => ?_⟩
  · rw [List.singleton_append, List.pairwise_cons]
    exact ⟨hB, h2⟩
  · rw [List.singleton_append, List.mem_cons] at hb'
    rcases hb' with rfl | hb'
    · exact hA a ha
    · exact h3 a ha b hb'
theorem jok_half {f t : Int} {l : List Block} {a q ty : Int} (h : JOk f t l a q) (h0 : 0 ≤ f) (ht : t ≤ 256) (ht16 : t % 16 = 0) (hq : 1 ≤ q) (hty : tyOk ty) : JOk f t (halfL ty a q l) a (q - 1) ∧ (∀ b ∈ l, b.At ≠ a + pw (q - 1)) := by
  obtain ⟨f1, f2, f3, f4, f5⟩ := h.fit
  have hp : pw q = 2 * pw (q - 1) := by
    have := pw_succ (o := q - 1) (by omega) (by omega)
    rwa [Int.sub_add_cancel] at this
  have hm : a % pw (q - 1) = 0 ∧ (a + pw (q - 1)) % pw (q - 1) = 0 ∧ 1 ≤ pw (q - 1) ∧ a + pw (q - 1) < t := by
    rcases pw_cases f1 f2 with ⟨e1, e2⟩ | ⟨e1, e2⟩ | ⟨e1, e2⟩ | ⟨e1, e2⟩ | ⟨e1, e2⟩
    all_goals
      rw [e2] at f5 hp
      first
        | omega
        | (have e3 : pw (q - 1) = 1 := by omega
           rw [e3]; omega)
        | (have e3 : pw (q - 1) = 2 := by omega
           rw [e3]; omega)
        | (have e3 : pw (q - 1) = 4 := by omega
           rw [e3]; omega)
        | (have e3 : pw (q - 1) = 8 := by omega
           rw [e3]; omega)
  obtain ⟨m1, m2, m3, m4⟩ := hm
  have hd : ∀ b ∈ l, b.At + pw b.Order ≤ a + pw (q - 1) ∨ a + pw (q - 1) + pw (q - 1) ≤ b.At := fun b hb => by
    rcases h.dis b hb with g | g <;> omega
  have hne : ∀ b ∈ l, b.At ≠ a + pw (q - 1) := fun b hb e => by
    have := pw_le (h.blk b hb).1.1 (h.blk b hb).1.2.1
    rcases h.dis b hb with g | g <;> omega
  refine ⟨⟨?_, fun b hb => ?_, ⟨by omega, by omega, f3, f4, m1⟩, fun b hb => ?_⟩, hne⟩
  · exact ups_insAt (y := halfB ty a q) h.ups h.blk ⟨by simp only [halfB]; omega, by simp only [halfB]; omega⟩ hd
  · rcases mem_insAt.1 hb with rfl | hb
    · exact ⟨⟨by simp only [halfB]; omega, by simp only [halfB]; omega, by simp only [halfB]; omega, m4, m2⟩, hty⟩
    · exact h.blk b hb
  · rcases mem_insAt.1 hb with rfl | hb
    · right; simp only [halfB]; omega
    · rcases h.dis b hb with g | g <;> omega
theorem halfL_len (ty a q : Int) (l : List Block) : (halfL ty a q l).length = l.length + 1 := by
  have := lb_le l (a + pw (q - 1))
  unfold halfL insAt
  simp
  omega
theorem jok_erase {f t : Int} {l : List Block} (hu : ups l) (hb : ∀ b ∈ l, blkOk f t b) {k : Nat} (hk : k < l.length) : JOk f t (l.eraseIdx k) l[k].At l[k].Order := by
  have hs : ∀ b ∈ l.eraseIdx k, b ∈ l := fun b h => List.mem_of_mem_eraseIdx h
  refine ⟨?_, fun b h => hb b (hs b h), (hb _ (List.getElem_mem hk)).1, fun b h => ?_⟩
  · unfold ups at *
    exact hu.sublist (List.eraseIdx_sublist l k)
  · obtain ⟨j, hj, rfl⟩ := List.getElem_of_mem h
    have hlen := List.length_eraseIdx_of_lt hk
    rw [List.getElem_eraseIdx]
    split
    · rename_i hjk
      exact .inl (ups_get hu hk hjk)
    · rename_i hjk
      exact .inr (ups_get hu (by omega) (by omega))
theorem test_low {l : List Block} {o t : Int} {j m : Nat} (hm : 5 + 2 * j ≤ m) (ho : 4 - (j : Int) < o) : testN l o t m = false :=
  test_off (by unfold ordN; rw [if_neg (by omega)]; omega)
theorem stTo_in {b : Block} (h2 : 2 ≤ b.Order) (h4 : b.Order ≤ 4) (hm : b.At % pw b.Order = 0) : b.At / 8 * 8 ≤ b.At ∧ b.At + pw b.Order ≤ stTo b := by
  unfold stTo
  rcases pw_cases (show 0 ≤ b.Order by omega) h4 with ⟨e1, e2⟩ | ⟨e1, e2⟩ | ⟨e1, e2⟩ | ⟨e1, e2⟩ | ⟨e1, e2⟩ <;> rw [e2] at hm ⊢ <;> split <;> omega
def takeF (z : Zone) (b : Block) (t : Int) (st : Bool) : List Block := if st = true then stFree z.Free b t else z.Free
theorem takeF_ok {z : Zone} (hz : ZoneMay z) {b : Block} {t : Int} (ht : tyOk t) (st : Bool) : (takeF z b t st).length = z.Free.length ∧ ups (takeF z b t st) ∧ ∀ x ∈ takeF z b t st, blkOk z.From z.To x := by
  have hb : ∀ x ∈ z.Free, blkOk z.From z.To x := fun x hx => by
    obtain ⟨i, hi, rfl⟩ := List.getElem_of_mem hx
    exact hz.blk i hi
  unfold takeF
  split
  · exact ⟨stFree_len _ _ _, stFree_ups (zone_ups hz), stFree_blk hb ht⟩
  · exact ⟨rfl, zone_ups hz, hb⟩
theorem takeF_get {z : Zone} (hz : ZoneMay z) {t : Int} (ht : tyOk t) (st : Bool) {k : Nat} (hk : k < z.Free.length) :
    (takeF z z.Free[k] t st)[k]'(by rw [(takeF_ok hz ht st).1]; exact hk) = ⟨z.Free[k].At, z.Free[k].Order, tySt z t st z.Free[k]⟩ := by
  obtain ⟨f1, f2, f3, f4, f5⟩ := (hz.blk k hk).1
  unfold takeF tySt
  cases st
  · simp
  · simp only [if_true, true_and]
    unfold stFree
    by_cases h2 : z.Free[k].Order < 2
    · simp only [if_pos h2, if_neg (show ¬ 2 ≤ z.Free[k].Order by omega)]
    · simp only [if_neg h2, if_pos (show 2 ≤ z.Free[k].Order by omega), List.getElem_map]
      unfold stB
      rw [if_pos (stTo_in (by omega) f2 f5)]
end Go.Proofs.YtfommgdbahemfaaDoor
