/-
  Plain law: when caches and systems may be.
-/
import Derived.Test.YtfommgdbahemfaaDoorPackKmemSizes7
import Derived.Test.YtfommgdbahemfaaDoorPackKmemSizes14
import Derived.Test.YtfommgdbahemfaaDoorPackKmemSizes8
import Derived.Test.YtfommgdbahemfaaDoorPackKmemSizes12
import Derived.Test.YtfommgdbahemfaaDoorPackKmemSizes9
set_option linter.unusedVariables false
namespace Go.Proofs.YtfommgdbahemfaaDoor

theorem mul_bd {x y : Int} (h1 : 0 ≤ x) (h2 : x ≤ 64) (h3 : 0 ≤ y) (h4 : y ≤ 64) : 0 ≤ x * y ∧ x * y ≤ 4096 :=
  ⟨Int.mul_nonneg h1 h3, by have := Int.mul_le_mul h2 h4 h3 (by omega : (0:Int) ≤ 64); omega⟩
/-- an object of a slab begins at an address -/
def objB (size per t a : Int) : Bool := decide (0 ≤ a - t * 16) && decide (a - t * 16 < per * size) && decide ((a - t * 16) % size = 0)
theorem objB_hit {size per t a : Int} {k : Nat} (hs : 1 ≤ size) (hk : (k : Int) < per) (h : a = 16 * t + k * size) : objB size per t a = true := by
  have e : a - t * 16 = k * size := by omega
  unfold objB
  rw [e, decide_eq_true (Int.mul_nonneg (by omega) (by omega)), decide_eq_true (Int.mul_lt_mul_of_pos_right hk (by omega)), decide_eq_true (Int.mul_emod_left _ _)]
  rfl
theorem objB_miss {size per t a : Int} (hs : 1 ≤ size) (h : ∀ k : Nat, (k : Int) < per → a ≠ 16 * t + k * size) : objB size per t a = false := by
  cases e : objB size per t a
  · rfl
  · exfalso
    unfold objB at e
    simp only [Bool.and_eq_true, decide_eq_true_eq] at e
    obtain ⟨⟨e1, e2⟩, e3⟩ := e
    have h1 : (a - t * 16) / size < per := Int.ediv_lt_of_lt_mul (by omega) e2
    have h2 : 0 ≤ (a - t * 16) / size := Int.ediv_nonneg e1 (by omega)
    have h3 := Int.mul_ediv_add_emod (a - t * 16) size
    obtain ⟨k, hk⟩ := Int.eq_ofNat_of_zero_le h2
    rw [hk] at h1 h3
    rw [e3, Int.mul_comm] at h3
    exact h k h1 (by omega)
/-- a slab's free objects -/
def ChainIs (ws : List Int) (size per : Int) (x : Slab) (out : List Int) : Prop := Follows ws per x.First [] (some out) ∧ (out.length : Int) = x.Free ∧ ∀ a ∈ out, objB size per x.At a = true
theorem Follows.mem {l : List Int} {most x : Int} {acc : List Int} {r : Option (List Int)} (h : Follows l most x acc r) : (∀ a ∈ acc, 0 ≤ a ∧ a < (l.length : Int)) → ∀ out, r = some out → ∀ a ∈ out, 0 ≤ a ∧ a < (l.length : Int) := by
  induction h with
  | done out => intro ha o e; cases e; exact ha
  | bad => intro _ _ e; cases e
  | @step k out r h1 hk h3 h ih =>
    intro ha o e
    refine ih (fun a hm => ?_) o e
    rcases List.mem_append.1 hm with hm | hm
    · exact ha a hm
    · simp at hm; subst hm; exact ⟨by omega, by omega⟩
theorem ChainIs.mem {ws : List Int} {size per : Int} {x : Slab} {out : List Int} (h : ChainIs ws size per x out) : ∀ a ∈ out, 0 ≤ a ∧ a < (ws.length : Int) := h.1.mem (by simp) out rfl
theorem ChainIs.det {ws : List Int} {size per : Int} {x : Slab} {out out' : List Int} (h : ChainIs ws size per x out) (h' : ChainIs ws size per x out') : out = out' := by
  have := h.1.det h'.1
  injection this

/-- the order of the block that was given away at a page -/
def ordA (l : List Block) (a : Int) : Int := if foundA l a then (l.getD (lbOf l a) ⟨0, 0, 0⟩).Order else -1
theorem ordA_t {l : List Block} {a : Int} (h : foundA l a = true) (hk : lbOf l a < l.length) : ordA l a = l[lbOf l a].Order := by
  unfold ordA
  rw [if_pos h]
  simp [List.getD, hk]
theorem ordA_f {l : List Block} {a : Int} (h : foundA l a = false) : ordA l a = -1 := by
  unfold ordA
  rw [h]
  rfl

/-- P5.3, of one slab and of one processor -/
structure SlabMay (s : KSystem) (c : KCache) (i : Nat) (h : i < c.Slabs.length) : Prop where
  live : ordA s.Heap.Live c.Slabs[i].At = c.Order
  next : 0 < i → (c.Slabs[i - 1]'(by omega)).At < c.Slabs[i].At
  chain : ∃ out, ChainIs s.Words c.Size c.Per c.Slabs[i] out
def atB (t : Int) (x : Slab) : Bool := decide (x.At = t)
def ActMay (c : KCache) (i : Nat) (h : i < c.Active.length) : Prop := c.Active[i] = -1 ∨ (c.Active[i] ∉ c.Active.take i ∧ c.Slabs.any (atB c.Active[i]) = true)
structure CacheMay (s : KSystem) (c : KCache) : Prop where
  lay : layoutF c.Size = (c.Order, c.Per, 0)
  names : 0 < c.Names.length
  active : (c.Active.length : Int) = s.Heap.Cpus
  slabs : ∀ (i : Nat) (h : i < c.Slabs.length), SlabMay s c i h
  acts : ∀ (i : Nat) (h : i < c.Active.length), ActMay c i h
noncomputable def cacheB (s : KSystem) (c : KCache) : Bool := @decide (CacheMay s c) (Classical.propDecidable _)
theorem cacheB_t {s : KSystem} {c : KCache} (a : CacheMay s c) : cacheB s c = true := by unfold cacheB; exact @decide_eq_true _ (Classical.propDecidable _) a
theorem cacheB_f {s : KSystem} {c : KCache} (a : ¬ CacheMay s c) : cacheB s c = false := by unfold cacheB; exact @decide_eq_false _ (Classical.propDecidable _) a
theorem cacheB_iff {s : KSystem} {c : KCache} : cacheB s c = true ↔ CacheMay s c := by
  by_cases a : CacheMay s c
  · simp [cacheB_t a, a]
  · simp [cacheB_f a, a]
theorem layoutF_ok {x o n : Int} (h : layoutF x = (o, n, 0)) : (1 ≤ x ∧ x ≤ 64) ∧ (0 ≤ o ∧ o ≤ 2) ∧ (1 ≤ n ∧ n ≤ 64) := by
  unfold layoutF at h
  split at h
  · rename_i hx
    have k1 : 64 / x ≤ 64 := Int.ediv_le_self _ (by omega)
    have k2 : 1 ≤ 64 / x := by rw [Int.le_ediv_iff_mul_le (by omega)]; omega
    have k3 : 16 / x ≤ 16 := Int.ediv_le_self _ (by omega)
    have k4 : 32 / x ≤ 32 := Int.ediv_le_self _ (by omega)
    split at h
    · simp only [Prod.mk.injEq] at h
      omega
    · split at h
      · simp only [Prod.mk.injEq] at h
        omega
      · simp only [Prod.mk.injEq] at h
        omega
  · simp only [Prod.mk.injEq] at h
    omega

/-- P5.4 -/
def namesAhead (cs : List KCache) : List ByteArray := cs.flatMap fun c => c.Names
def slabsAhead (cs : List KCache) : List Int := cs.flatMap fun c => c.Slabs.map fun x => x.At
structure NamesIn (acc l : List ByteArray) : Prop where
  each : ∀ (k : Nat) (h : k < l.length), nameB l[k] = true ∧ l[k] ∉ acc ++ l.take k ∧ (0 < k → lessS (l[k - 1]'(by omega)) l[k] = true)
def SlabsIn (acc : List Int) (l : List Slab) : Prop := ∀ (k : Nat) (h : k < l.length), l[k].At ∉ acc ++ (l.take k).map fun x => x.At
structure CacheIn (s : KSystem) (i : Nat) (h : i < s.Caches.length) : Prop where
  may : CacheMay s s.Caches[i]
  size : ∀ (j : Nat) (hj : j < i), (s.Caches[j]'(by omega)).Size ≠ s.Caches[i].Size
  names : NamesIn (namesAhead (s.Caches.take i)) s.Caches[i].Names
  slabs : SlabsIn (slabsAhead (s.Caches.take i)) s.Caches[i].Slabs
structure SystemMay (s : KSystem) : Prop where
  words : s.Words.length = 4096
  heap : HeapMay s.Heap
  most : s.Caches.length ≤ 20
  each : ∀ (i : Nat) (h : i < s.Caches.length), CacheIn s i h
noncomputable def sysB (s : KSystem) : Bool := @decide (SystemMay s) (Classical.propDecidable _)
theorem sysB_t {s : KSystem} (a : SystemMay s) : sysB s = true := by unfold sysB; exact @decide_eq_true _ (Classical.propDecidable _) a
theorem sysB_f {s : KSystem} (a : ¬ SystemMay s) : sysB s = false := by unfold sysB; exact @decide_eq_false _ (Classical.propDecidable _) a
theorem sysB_iff {s : KSystem} : sysB s = true ↔ SystemMay s := by
  by_cases a : SystemMay s
  · simp [sysB_t a, a]
  · simp [sysB_f a, a]
theorem namesAhead_take (cs : List KCache) (i : Nat) (h : i < cs.length) : namesAhead (cs.take (i + 1)) = namesAhead (cs.take i) ++ cs[i].Names := by
  unfold namesAhead
  rw [List.take_succ_eq_append_getElem h, List.flatMap_append]
  simp
theorem slabsAhead_take (cs : List KCache) (i : Nat) (h : i < cs.length) : slabsAhead (cs.take (i + 1)) = slabsAhead (cs.take i) ++ cs[i].Slabs.map fun x => x.At := by
  unfold slabsAhead
  rw [List.take_succ_eq_append_getElem h, List.flatMap_append]
  simp
end Go.Proofs.YtfommgdbahemfaaDoor

/-
  Contracts: object, chain and isObject, freeIn of the reference.
-/
set_option linter.unusedVariables false
namespace Go.Proofs.YtfommgdbahemfaaDoor
open Go.RowKit

theorem wrap_low {z : Int} (h1 : -18446744073709551616 < z) (h2 : z < -9223372036854775808) : IntKind.i64.wrap z = z + 18446744073709551616 := by
  simp [IntKind.wrap, IntKind.bits, IntKind.signed]
  omega

theorem object_ans (r : CRow) (t a : Int) (w : World) (hs : 1 ≤ r.Size ∧ r.Size ≤ 64) (hp : 1 ≤ r.Per ∧ r.Per ≤ 64) (ht : 0 ≤ t ∧ t ≤ 255) (ha : -9223372036854775808 ≤ a ∧ a ≤ 9223372036854775807) :
    Ans Tryd.prog 70 [.agg (encC r).toArray, .int .i64 t, .int .i64 a] w fun v _ => v = .bool (objB r.Size r.Per t a) := by
  refine ans_of Tryd.func70 rfl Tryd.ntmps70 rfl ?_
  refine CW.seq (CW.region (SW.box rfl rfl fun b1 w1 hw hb1b hb1 => ?_))
  have hm := mul_bd (x := r.Per) (y := r.Size) (by omega) (by omega) (by omega) (by omega)
  unfold objB
  by_cases hlo : a - t * 16 < -9223372036854775808
  · have e := wrap_low (z := a - t * 16) (by omega) hlo
    rw [decide_eq_false (show ¬ 0 ≤ a - t * 16 by omega)]
    repeat' (first | (show CW _ _ _ _ _ _; first | refine CW.seq ?_ | refine CW.region ?_ | refine CW.ret ?_) | (show Post _ _ _ _ _; refine Post.seq ?_) | refine SW.nil ?_ | (show SW _ _ _ _ (⟨_, _, _, _, _, some _⟩ :: _) _ _; first | refine SW.want_t rfl rfl (by with_reducible rfl) ?_ | refine SW.skip_t rfl rfl (by with_reducible rfl) rfl ?_ | refine SW.splitd_t rfl rfl rfl (by omega) ?_ | refine SW.splitd_f rfl rfl rfl (by omega) ?_) | refine SW.pure rfl rfl ?_ | (show SW _ _ _ _ (⟨_, Op.fieldAddr _ _ _, _, _, _, none⟩ :: _) _ _; refine SW.st (st_field rfl) rfl ?_) | (show SW _ _ _ _ (⟨_, Op.binOp _ _ _ _ _, _, _, _, none⟩ :: _) _ _; refine SW.st (st_mul rfl rfl (by omega) (by omega)) rfl ?_) | (show SW _ _ _ _ (⟨_, Op.load _ _, _, _, _, none⟩ :: _) _ _; refine SW.st (st_load rfl (hb1.cell rfl)) rfl ?_) | (refine SW.st ((st_subw rfl rfl).eq (congrArg (Value.int .i64) e)) rfl ?_))
    all_goals first | (exfalso; omega) | skip
    exact Post.ret1 rfl rfl ⟨_, rfl, hw, rfl⟩
  · by_cases h0 : 0 ≤ a - t * 16
    · have e : (a - t * 16).tmod r.Size = (a - t * 16) % r.Size := Int.tmod_eq_emod_of_nonneg h0
      rw [decide_eq_true h0]
      by_cases h1 : a - t * 16 < r.Per * r.Size
      · rw [decide_eq_true h1]
        repeat' (first | (show CW _ _ _ _ _ _; first | refine CW.seq ?_ | refine CW.region ?_ | refine CW.ret ?_) | (show Post _ _ _ _ _; refine Post.seq ?_) | refine SW.nil ?_ | (show SW _ _ _ _ (⟨_, _, _, _, _, some _⟩ :: _) _ _; first | refine SW.want_t rfl rfl (by with_reducible rfl) ?_ | refine SW.splitd_t rfl rfl rfl (by omega) ?_) | refine SW.pure rfl rfl ?_ | (show SW _ _ _ _ (⟨_, Op.fieldAddr _ _ _, _, _, _, none⟩ :: _) _ _; refine SW.st (st_field rfl) rfl ?_) | (show SW _ _ _ _ (⟨_, Op.binOp _ _ _ _ _, _, _, _, none⟩ :: _) _ _; first | refine SW.st (st_sub rfl rfl (by omega) (by omega)) rfl ?_ | refine SW.st (st_mul rfl rfl (by omega) (by omega)) rfl ?_ | refine SW.st (st_rem rfl rfl (by omega)) rfl ?_) | (show SW _ _ _ _ (⟨_, Op.load _ _, _, _, _, none⟩ :: _) _ _; refine SW.st (st_load rfl (hb1.cell rfl)) rfl ?_))
        all_goals first | (exfalso; omega) | skip
        refine Post.ret1 rfl rfl ⟨_, rfl, hw, ?_⟩
        rw [e]; rfl
      · rw [decide_eq_false h1]
        repeat' (first | (show CW _ _ _ _ _ _; first | refine CW.seq ?_ | refine CW.region ?_ | refine CW.ret ?_) | (show Post _ _ _ _ _; refine Post.seq ?_) | refine SW.nil ?_ | (show SW _ _ _ _ (⟨_, _, _, _, _, some _⟩ :: _) _ _; first | refine SW.want_t rfl rfl (by with_reducible rfl) ?_ | refine SW.skip_t rfl rfl (by with_reducible rfl) rfl ?_ | refine SW.splitd_t rfl rfl rfl (by omega) ?_ | refine SW.splitd_f rfl rfl rfl (by omega) ?_) | refine SW.pure rfl rfl ?_ | (show SW _ _ _ _ (⟨_, Op.fieldAddr _ _ _, _, _, _, none⟩ :: _) _ _; refine SW.st (st_field rfl) rfl ?_) | (show SW _ _ _ _ (⟨_, Op.binOp _ _ _ _ _, _, _, _, none⟩ :: _) _ _; first | refine SW.st (st_sub rfl rfl (by omega) (by omega)) rfl ?_ | refine SW.st (st_mul rfl rfl (by omega) (by omega)) rfl ?_) | (show SW _ _ _ _ (⟨_, Op.load _ _, _, _, _, none⟩ :: _) _ _; refine SW.st (st_load rfl (hb1.cell rfl)) rfl ?_))
        all_goals first | (exfalso; omega) | skip
        exact Post.ret1 rfl rfl ⟨_, rfl, hw, rfl⟩
    · rw [decide_eq_false h0]
      repeat' (first | (show CW _ _ _ _ _ _; first | refine CW.seq ?_ | refine CW.region ?_ | refine CW.ret ?_) | (show Post _ _ _ _ _; refine Post.seq ?_) | refine SW.nil ?_ | (show SW _ _ _ _ (⟨_, _, _, _, _, some _⟩ :: _) _ _; first | refine SW.skip_t rfl rfl (by with_reducible rfl) rfl ?_ | refine SW.splitd_f rfl rfl rfl (by omega) ?_) | refine SW.pure rfl rfl ?_ | (show SW _ _ _ _ (⟨_, Op.binOp _ _ _ _ _, _, _, _, none⟩ :: _) _ _; first | refine SW.st (st_sub rfl rfl (by omega) (by omega)) rfl ?_ | refine SW.st (st_mul rfl rfl (by omega) (by omega)) rfl ?_))
      all_goals first | (exfalso; omega) | skip
      exact Post.ret1 rfl rfl ⟨_, rfl, hw, rfl⟩

theorem isObject_ans (r : CRow) (t a : Int) (w : World) (hs : 1 ≤ r.Size ∧ r.Size ≤ 64) (hp : 1 ≤ r.Per ∧ r.Per ≤ 64) (ht : 0 ≤ t ∧ t ≤ 255) :
    Ans Tryd.prog 118 [.agg (encC r).toArray, .int .i64 t, .int .i64 a] w fun v _ => v = .bool (objB r.Size r.Per t a) := by
  refine ans_of Tryd.func118 rfl Tryd.ntmps118 rfl ?_
  refine CW.seq (CW.region (SW.box rfl rfl fun b1 w1 hw hb1b hb1 => ?_))
  repeat' (first | (show CW _ _ _ _ _ _; first | refine CW.seq ?_ | refine CW.region ?_ | refine CW.block ?_) | (show Post _ _ _ _ _; refine Post.seq ?_) | refine SW.nil ?_ | refine SW.pure rfl rfl ?_)
  refine CW.loop (fun k : Nat => [(1, .int .i64 t), (2, .int .i64 a), (3, .pointer (some ⟨b1, 0, none⟩)), (7, .int .i64 (k : Int))]) (fun k w' => (k : Int) ≤ r.Per ∧ Ext w w' ∧ Blk w' b1 79 (encC r) ∧ ∀ i : Nat, i < k → a ≠ 16 * t + i * r.Size) (fun k => r.Per.toNat - k) 0
    ⟨rfl, rfl, rfl, rfl, trivial⟩ ⟨by omega, hw, hb1, fun i h => by omega⟩ ?_
  clear hw hb1
  rintro k w' ⟨hk, hw, hb1, hI⟩
  by_cases hkn : (k : Int) < r.Per
  · have hm := mul_bd (x := (k : Int)) (y := r.Size) (by omega) (by omega) (by omega) (by omega)
    by_cases hx : a = 16 * t + k * r.Size
    · rw [objB_hit hs.1 hkn hx]
      repeat' (first | (show CW _ _ _ _ _ _; first | refine CW.seq ?_ | refine CW.region ?_ | refine CW.block ?_ | refine CW.condd_t rfl (by omega) ?_ | refine CW.skip ?_ | refine CW.ret ?_) | (show Post _ _ _ _ _; first | refine Post.seq ?_ | refine Post.seq_ret ?_ | refine Post.blk_ret ?_ | refine Post.again_ret ?_) | refine SW.nil ?_ | refine SW.pure rfl rfl ?_ | (show SW _ _ _ _ (⟨_, Op.fieldAddr _ _ _, _, _, _, none⟩ :: _) _ _; refine SW.st (st_field rfl) rfl ?_) | (show SW _ _ _ _ (⟨_, Op.binOp _ _ _ _ _, _, _, _, none⟩ :: _) _ _; first | refine SW.st (st_add rfl rfl (by omega) (by omega)) rfl ?_ | refine SW.st (st_mul rfl rfl (by omega) (by omega)) rfl ?_) | (show SW _ _ _ _ (⟨_, Op.load _ _, _, _, _, none⟩ :: _) _ _; refine SW.st (st_load rfl (hb1.cell rfl)) rfl ?_))
      all_goals first | (exfalso; omega) | skip
      exact Post.ret1 rfl rfl ⟨_, rfl, hw, rfl⟩
    · repeat' (first | (show CW _ _ _ _ _ _; first | refine CW.seq ?_ | refine CW.region ?_ | refine CW.block ?_ | refine CW.condd_t rfl (by omega) ?_ | refine CW.condd_f rfl (by omega) ?_ | refine CW.skip ?_) | (show Post _ _ _ _ _; first | refine Post.seq ?_ | refine Post.blk ?_) | refine SW.nil ?_ | refine SW.pure rfl rfl ?_ | (show SW _ _ _ _ (⟨_, Op.fieldAddr _ _ _, _, _, _, none⟩ :: _) _ _; refine SW.st (st_field rfl) rfl ?_) | (show SW _ _ _ _ (⟨_, Op.binOp _ _ _ _ _, _, _, _, none⟩ :: _) _ _; first | refine SW.st (st_add rfl rfl (by omega) (by omega)) rfl ?_ | refine SW.st (st_mul rfl rfl (by omega) (by omega)) rfl ?_) | (show SW _ _ _ _ (⟨_, Op.load _ _, _, _, _, none⟩ :: _) _ _; refine SW.st (st_load rfl (hb1.cell rfl)) rfl ?_))
      all_goals first | (exfalso; omega) | skip
      exact Post.again (k + 1) ⟨rfl, rfl, rfl, rfl, trivial⟩ (by omega) ⟨by omega, hw, hb1, fun i h => by
        by_cases e : i = k
        · subst e; exact hx
        · exact hI i (by omega)⟩
  · rw [objB_miss hs.1 (fun i h => hI i (by omega))]
    repeat' (first | (show CW _ _ _ _ _ _; first | refine CW.seq ?_ | refine CW.region ?_ | refine CW.condd_f rfl (by omega) ?_ | refine CW.ret ?_ | refine CW.exit ?_) | (show Post _ _ _ _ _; first | refine Post.seq ?_ | refine Post.seq_exit ?_ | refine Post.hit ?_ | refine Post.again_exit ?_) | refine SW.nil ?_ | refine SW.pure rfl rfl ?_ | (show SW _ _ _ _ (⟨_, Op.fieldAddr _ _ _, _, _, _, none⟩ :: _) _ _; refine SW.st (st_field rfl) rfl ?_) | (show SW _ _ _ _ (⟨_, Op.load _ _, _, _, _, none⟩ :: _) _ _; refine SW.st (st_load rfl (hb1.cell rfl)) rfl ?_))
    exact Post.ret1 rfl rfl ⟨_, rfl, hw, rfl⟩

theorem chainF_ans (a : Int) (b4 b5 : Nat) (q : CRow) (x : Slab) (w : World) (h4 : Blk w b4 79 (encC q)) (h5 : Blk w b5 110 (encSb x))
    (hs : 1 ≤ q.Size ∧ q.Size ≤ 64) (hp : 1 ≤ q.Per ∧ q.Per ≤ 64) (ht : 0 ≤ x.At ∧ x.At ≤ 255) (ha : 0 ≤ a ∧ a < 9223372036854775807) :
    Ans Tryd.prog 110 ([.int .i64 a] ++ [.pointer (some ⟨b4, 0, none⟩), .pointer (some ⟨b5, 0, none⟩)]) w fun v _ => v = .bool (!objB q.Size q.Per x.At a) := by
  refine ans_of Tryd.func110 rfl Tryd.ntmps110 rfl ?_
  have hw := Ext.refl w
  repeat' (first | (show CW _ _ _ _ _ _; first | refine CW.seq ?_ | refine CW.region ?_ | refine CW.ret ?_) | (show Post _ _ _ _ _; refine Post.seq ?_) | refine SW.nil ?_ | refine SW.pure rfl rfl ?_ | (show SW _ _ _ _ (⟨_, Op.fieldAddr _ _ _, _, _, _, none⟩ :: _) _ _; refine SW.st (st_field rfl) rfl ?_) | (show SW _ _ _ _ (⟨_, Op.load _ _, _, _, _, none⟩ :: _) _ _; first | refine SW.st (st_loads rfl rfl ((fun _ _ => h4.cell))) rfl ?_ | refine SW.st (st_load rfl (h5.cell rfl)) rfl ?_) | (show SW _ _ _ _ (⟨_, Op.call ⟨.value (.func _), _, _⟩, _, _, _, none⟩ :: _) _ _; (refine SW.call rfl rfl (object_ans q x.At a _ hs hp ht (by omega)) ?_; intro v w1 hw1 hv; subst hv; replace hw := Ext.trans hw hw1; clear hw1)))
  exact Post.ret1 rfl rfl ⟨_, rfl, hw, rfl⟩

/-- what the walk of a slab's chain answers -/
def ChainOut (lo : Nat) (ws : List Int) (size per : Int) (x : Slab) (v : Value) (w : World) : Prop :=
  (∃ out A k, ChainIs ws size per x out ∧ v = .tuple #[.slice A out.length k, .bool true] ∧ Own w lo 3 1 encI A out.length k out ∧ out.length ≤ 17592186044416) ∨
  ((∀ out, ¬ ChainIs ws size per x out) ∧ v = .tuple #[.slice none 0 0, .bool false])

theorem chain_ans (r : SRow) (q : CRow) (x : Slab) (ws : List Int) (w : World) (hl : Sl w 1 encI r.Words.A r.Words.n ws) (hn : r.Words.n * 8 ≤ 140737488355328)
    (hs : 1 ≤ q.Size ∧ q.Size ≤ 64) (hp : 1 ≤ q.Per ∧ q.Per ≤ 64) (ht : 0 ≤ x.At ∧ x.At ≤ 255) :
    Ans Tryd.prog 71 [.agg (encSys r).toArray, .agg (encC q).toArray, .agg (encSb x).toArray] w fun v w' => ChainOut w.heap.size ws q.Size q.Per x v w' := by
  refine ans_of Tryd.func71 rfl Tryd.ntmps71 rfl ?_
  refine CW.seq (CW.region (SW.box rfl rfl fun b3 w1 hw hb3b hb3 => ?_))
  refine SW.box rfl rfl fun b4 w2 hw2 hb4b hb4 => ?_
  (replace hw := Ext.trans hw hw2; replace hb3 := hb3.ext hw2)
  refine SW.box rfl rfl fun b5 w3 hw3 hb5b hb5 => ?_
  (replace hw := Ext.trans hw hw3; replace hb3 := hb3.ext hw3; replace hb4 := hb4.ext hw3)
  repeat' (first | (show CW _ _ _ _ _ _; first | refine CW.seq ?_ | refine CW.region ?_) | (show Post _ _ _ _ _; refine Post.seq ?_) | refine SW.nil ?_ | refine SW.pure rfl rfl ?_ | (show SW _ _ _ _ (⟨_, Op.fieldAddr _ _ _, _, _, _, none⟩ :: _) _ _; refine SW.st (st_field rfl) rfl ?_) | (show SW _ _ _ _ (⟨_, Op.load _ _, _, _, _, none⟩ :: _) _ _; first | refine SW.st (st_load rfl (hb3.cell rfl)) rfl ?_ | refine SW.st (st_load rfl (hb4.cell rfl)) rfl ?_ | refine SW.st (st_load rfl (hb5.cell rfl)) rfl ?_))
  have hlo := hw.size
  refine SW.call rfl rfl (Follow_ans _ _ _ _ _ _ _ (hl.ext hw) hn) fun v w4 hw4 hv => ?_
  obtain ⟨res, hF, hV⟩ := hv
  (replace hw := Ext.trans hw hw4; replace hb3 := hb3.ext hw4; replace hb4 := hb4.ext hw4; replace hb5 := hb5.ext hw4)
  have hwl := hl.len
  rcases res with _ | out
  · subst hV
    repeat' (first | (show CW _ _ _ _ _ _; first | refine CW.seq ?_ | refine CW.region ?_ | refine CW.condtr rfl (by with_reducible rfl) ?_ | refine CW.ret ?_) | (show Post _ _ _ _ _; first | refine Post.seq ?_ | refine Post.seq_ret ?_) | refine SW.nil ?_ | (show SW _ _ _ _ (⟨_, _, _, _, _, some _⟩ :: _) _ _; first | refine SW.skip_f rfl rfl (by with_reducible rfl) rfl ?_ | refine SW.splitn_t rfl rfl rfl (by omega) ?_) | refine SW.pure rfl rfl ?_)
    refine Post.ret2 rfl rfl rfl ⟨_, rfl, hw, .inr ⟨fun o h => ?_, rfl⟩⟩
    have := hF.det h.1
    cases this
  · obtain ⟨A, k, rfl, hO, hlen⟩ := hV
    replace hO := hO.low hlo
    by_cases hfree : (out.length : Int) = x.Free
    · have cC : ∀ w', Ext w4 w' → Ans Tryd.prog 54 [.slice A out.length k, .func (.func 110) #[] [.pointer (some ⟨b4, 0, none⟩), .pointer (some ⟨b5, 0, none⟩)].toArray] w' fun v _ => v = .bool (out.any fun a => !objB q.Size q.Per x.At a) := fun w' hx =>
        ContainsFuncInt_ans _ _ _ _ _ (hO.sl.ext hx) _ [.pointer (some ⟨b4, 0, none⟩), .pointer (some ⟨b5, 0, none⟩)] (fun a => !objB q.Size q.Per x.At a) (fun x => .int .i64 x) (fun x => rfl)
          (fun a ha w1 hx1 => by
            have hm := hF.mem (by simp) out rfl a ha
            exact chainF_ans a b4 b5 q x w1 ((hb4.ext hx).ext hx1) ((hb5.ext hx).ext hx1) hs hp ht ⟨hm.1, by omega⟩) (by omega)
      have h44 := Ext.refl w4
      repeat' (first | (show CW _ _ _ _ _ _; first | refine CW.seq ?_ | refine CW.region ?_) | (show Post _ _ _ _ _; refine Post.seq ?_) | refine SW.nil ?_ | (show SW _ _ _ _ (⟨_, _, _, _, _, some _⟩ :: _) _ _; first | refine SW.want_f rfl rfl (by with_reducible rfl) ?_ | refine SW.splitn_f rfl rfl rfl (by omega) ?_) | refine SW.pure rfl rfl ?_ | (show SW _ _ _ _ (⟨_, Op.fieldAddr _ _ _, _, _, _, none⟩ :: _) _ _; refine SW.st (st_field rfl) rfl ?_) | (show SW _ _ _ _ (⟨_, Op.call ⟨.builtin .len, _, _⟩, _, _, _, none⟩ :: _) _ _; refine SW.st (st_len rfl) rfl ?_) | (show SW _ _ _ _ (⟨_, Op.load _ _, _, _, _, none⟩ :: _) _ _; refine SW.st (st_load rfl (hb5.cell rfl)) rfl ?_) | (refine SW.st (st_func (vs := [.pointer (some ⟨b4, 0, none⟩), .pointer (some ⟨b5, 0, none⟩)]) rfl) rfl ?_))
      refine SW.call rfl rfl (cC _ h44) fun v w5 hw5 hv => ?_
      (replace hw := Ext.trans hw hw5; replace hO := hO.ext hw5)
      subst hv
      cases hany : out.any fun a => !objB q.Size q.Per x.At a
      · repeat' (first | (show CW _ _ _ _ _ _; first | refine CW.seq ?_ | refine CW.region ?_ | refine CW.condfr rfl (by with_reducible rfl) ?_ | refine CW.skip ?_ | refine CW.ret ?_) | (show Post _ _ _ _ _; refine Post.seq ?_) | refine SW.nil ?_ | refine SW.pure rfl rfl ?_)
        refine Post.ret2 rfl rfl rfl ⟨_, rfl, hw, .inl ⟨out, A, k, ⟨hF, hfree, fun a ha => ?_⟩, rfl, hO, hlen⟩⟩
        rw [List.any_eq_false] at hany
        simpa using hany a ha
      · repeat' (first | (show CW _ _ _ _ _ _; first | refine CW.seq ?_ | refine CW.region ?_ | refine CW.condtr rfl (by with_reducible rfl) ?_ | refine CW.ret ?_) | (show Post _ _ _ _ _; first | refine Post.seq ?_ | refine Post.seq_ret ?_) | refine SW.nil ?_ | refine SW.pure rfl rfl ?_)
        refine Post.ret2 rfl rfl rfl ⟨_, rfl, hw, .inr ⟨fun o h => ?_, rfl⟩⟩
        obtain ⟨a, ha, hoa⟩ := List.any_eq_true.1 hany
        have e := hF.det h.1
        injection e with e
        subst e
        rw [h.2.2 a ha] at hoa
        cases hoa
    · repeat' (first | (show CW _ _ _ _ _ _; first | refine CW.seq ?_ | refine CW.region ?_ | refine CW.condtr rfl (by with_reducible rfl) ?_ | refine CW.ret ?_) | (show Post _ _ _ _ _; first | refine Post.seq ?_ | refine Post.seq_ret ?_) | refine SW.nil ?_ | (show SW _ _ _ _ (⟨_, _, _, _, _, some _⟩ :: _) _ _; first | refine SW.want_f rfl rfl (by with_reducible rfl) ?_ | refine SW.skip_f rfl rfl (by with_reducible rfl) rfl ?_ | refine SW.splitn_t rfl rfl rfl (by omega) ?_ | refine SW.splitn_f rfl rfl rfl (by omega) ?_) | refine SW.pure rfl rfl ?_ | (show SW _ _ _ _ (⟨_, Op.fieldAddr _ _ _, _, _, _, none⟩ :: _) _ _; refine SW.st (st_field rfl) rfl ?_) | (show SW _ _ _ _ (⟨_, Op.call ⟨.builtin .len, _, _⟩, _, _, _, none⟩ :: _) _ _; refine SW.st (st_len rfl) rfl ?_) | (show SW _ _ _ _ (⟨_, Op.load _ _, _, _, _, none⟩ :: _) _ _; refine SW.st (st_load rfl (hb5.cell rfl)) rfl ?_))
      all_goals first | (exfalso; omega) | skip
      refine Post.ret2 rfl rfl rfl ⟨_, rfl, hw, .inr ⟨fun o h => ?_, rfl⟩⟩
      have e := hF.det h.1
      injection e with e
      subst e
      exact hfree h.2.1

theorem freeIn_ans (r : SRow) (q : CRow) (x : Slab) (ws : List Int) (w : World) (hl : Sl w 1 encI r.Words.A r.Words.n ws) (hn : r.Words.n * 8 ≤ 140737488355328)
    (hs : 1 ≤ q.Size ∧ q.Size ≤ 64) (hp : 1 ≤ q.Per ∧ q.Per ≤ 64) (ht : 0 ≤ x.At ∧ x.At ≤ 255) :
    Ans Tryd.prog 116 [.agg (encSys r).toArray, .agg (encC q).toArray, .agg (encSb x).toArray] w fun v w' => ChainOut w.heap.size ws q.Size q.Per x v w' := by
  refine ans_of Tryd.func116 rfl Tryd.ntmps116 rfl ?_
  refine CW.seq (CW.region (SW.box rfl rfl fun b3 w1 hw hb3b hb3 => ?_))
  refine SW.box rfl rfl fun b4 w2 hw2 hb4b hb4 => ?_
  (replace hw := Ext.trans hw hw2; replace hb3 := hb3.ext hw2)
  refine SW.box rfl rfl fun b5 w3 hw3 hb5b hb5 => ?_
  (replace hw := Ext.trans hw hw3; replace hb3 := hb3.ext hw3; replace hb4 := hb4.ext hw3)
  repeat' (first | (show CW _ _ _ _ _ _; first | refine CW.seq ?_ | refine CW.region ?_) | (show Post _ _ _ _ _; refine Post.seq ?_) | refine SW.nil ?_ | refine SW.pure rfl rfl ?_ | (show SW _ _ _ _ (⟨_, Op.fieldAddr _ _ _, _, _, _, none⟩ :: _) _ _; refine SW.st (st_field rfl) rfl ?_) | (show SW _ _ _ _ (⟨_, Op.load _ _, _, _, _, none⟩ :: _) _ _; first | refine SW.st (st_load rfl (hb3.cell rfl)) rfl ?_ | refine SW.st (st_load rfl (hb4.cell rfl)) rfl ?_ | refine SW.st (st_load rfl (hb5.cell rfl)) rfl ?_))
  have hlo := hw.size
  refine SW.call rfl rfl (FollowOf_ans _ _ _ _ _ _ _ (hl.ext hw) hn) fun v w4 hw4 hv => ?_
  obtain ⟨res, hF, hV⟩ := hv
  (replace hw := Ext.trans hw hw4; replace hb3 := hb3.ext hw4; replace hb4 := hb4.ext hw4; replace hb5 := hb5.ext hw4)
  have hwl := hl.len
  rcases res with _ | out
  · subst hV
    repeat' (first | (show CW _ _ _ _ _ _; first | refine CW.seq ?_ | refine CW.region ?_ | refine CW.condtr rfl (by with_reducible rfl) ?_ | refine CW.ret ?_) | (show Post _ _ _ _ _; first | refine Post.seq ?_ | refine Post.seq_ret ?_) | refine SW.nil ?_ | (show SW _ _ _ _ (⟨_, _, _, _, _, some _⟩ :: _) _ _; first | refine SW.skip_f rfl rfl (by with_reducible rfl) rfl ?_ | refine SW.splitn_t rfl rfl rfl (by omega) ?_) | refine SW.pure rfl rfl ?_)
    refine Post.ret2 rfl rfl rfl ⟨_, rfl, hw, .inr ⟨fun o h => ?_, rfl⟩⟩
    have := hF.det h.1
    cases this
  · obtain ⟨A, k, rfl, hO, hlen⟩ := hV
    replace hO := hO.low hlo
    by_cases hfree : (out.length : Int) = x.Free
    · repeat' (first | (show CW _ _ _ _ _ _; first | refine CW.seq ?_ | refine CW.region ?_ | refine CW.block ?_ | refine CW.condn_f rfl (by omega) ?_ | refine CW.skip ?_) | (show Post _ _ _ _ _; refine Post.seq ?_) | refine SW.nil ?_ | (show SW _ _ _ _ (⟨_, _, _, _, _, some _⟩ :: _) _ _; first | refine SW.want_f rfl rfl (by with_reducible rfl) ?_ | refine SW.splitn_f rfl rfl rfl (by omega) ?_) | refine SW.pure rfl rfl ?_ | (show SW _ _ _ _ (⟨_, Op.fieldAddr _ _ _, _, _, _, none⟩ :: _) _ _; refine SW.st (st_field rfl) rfl ?_) | (show SW _ _ _ _ (⟨_, Op.call ⟨.builtin .len, _, _⟩, _, _, _, none⟩ :: _) _ _; refine SW.st (st_len rfl) rfl ?_) | (show SW _ _ _ _ (⟨_, Op.load _ _, _, _, _, none⟩ :: _) _ _; refine SW.st (st_load rfl (hb5.cell rfl)) rfl ?_))
      all_goals first | (exfalso; omega) | skip
      refine CW.loop (fun j : Nat => [(4, .pointer (some ⟨b4, 0, none⟩)), (5, .pointer (some ⟨b5, 0, none⟩)), (8, .slice A out.length k), (10, .int .i64 (j : Int))]) (fun j w' => j ≤ out.length ∧ Ext w w' ∧ Own w' w.heap.size 3 1 encI A out.length k out ∧ Blk w' b4 79 (encC q) ∧ Blk w' b5 110 (encSb x) ∧ ∀ (i : Nat) (h : i < out.length), i < j → objB q.Size q.Per x.At out[i] = true) (fun j => out.length - j) 0
        ⟨rfl, rfl, rfl, rfl, trivial⟩ ⟨by omega, hw, hO, hb4, hb5, fun i h h' => by omega⟩ ?_
      clear hw hO hb4 hb5 hb3
      rintro j w' ⟨hj, hw, hO, hb4, hb5, hI⟩
      have hbase := hO.sl.base
      by_cases hjn : j < out.length
      · have cO : ∀ w', Ans Tryd.prog 118 [.agg (encC q).toArray, .int .i64 x.At, .int .i64 out[j]] w' fun v _ => v = .bool (objB q.Size q.Per x.At out[j]) := fun w' => isObject_ans q x.At out[j] w' hs hp ht
        cases ho : objB q.Size q.Per x.At out[j]
        · rw [ho] at cO
          repeat' (first | (show CW _ _ _ _ _ _; first | refine CW.seq ?_ | refine CW.region ?_ | refine CW.block ?_ | refine CW.condd_t rfl (by omega) ?_ | refine CW.condt rfl ?_ | refine CW.skip ?_ | refine CW.ret ?_ | (apply CW.quiet1 mixed; (· kernel_rfl); rotate_left; intro w1 hw1; replace hw := Ext.trans hw hw1; replace hO := hO.ext hw1; replace hb4 := hb4.ext hw1; replace hb5 := hb5.ext hw1; clear hw1; rotate_right)) | (show Post _ _ _ _ _; first | refine Post.seq ?_ | refine Post.seq_ret ?_ | refine Post.blk_ret ?_ | refine Post.again_ret ?_) | refine SW.nil ?_ | refine SW.pure rfl rfl ?_ | (show SW _ _ _ _ (⟨_, Op.fieldAddr _ _ _, _, _, _, none⟩ :: _) _ _; refine SW.st (st_field rfl) rfl ?_) | (show SW _ _ _ _ (⟨_, Op.indexAddr _ _ _, _, _, _, none⟩ :: _) _ _; refine SW.st (st_indexN rfl rfl (by assumption) (by omega)) rfl ?_) | (show SW _ _ _ _ (⟨_, Op.call ⟨.builtin .len, _, _⟩, _, _, _, none⟩ :: _) _ _; refine SW.st (st_len rfl) rfl ?_) | (show SW _ _ _ _ (⟨_, Op.load _ _, _, _, _, none⟩ :: _) _ _; first | refine SW.st (st_loads rfl rfl ((fun _ _ => hb4.cell))) rfl ?_ | refine SW.st (st_load rfl (hb5.cell rfl)) rfl ?_ | refine SW.st (st_load rfl (hO.sl.one hjn rfl)) rfl ?_) | (show SW _ _ _ _ (⟨_, Op.call ⟨.value (.func _), _, _⟩, _, _, _, none⟩ :: _) _ _; refine SW.qcall rfl rfl (fun w1 hw1 => (cO _)) ?_) | exact SW.qnil rfl)
          refine Post.ret2 rfl rfl rfl ⟨_, rfl, hw, .inr ⟨fun o h => ?_, rfl⟩⟩
          have e := hF.det h.1
          injection e with e
          subst e
          rw [h.2.2 _ (List.getElem_mem hjn)] at ho
          cases ho
        · rw [ho] at cO
          repeat' (first | (show CW _ _ _ _ _ _; first | refine CW.seq ?_ | refine CW.region ?_ | refine CW.block ?_ | refine CW.condd_t rfl (by omega) ?_ | refine CW.condf rfl ?_ | refine CW.skip ?_ | (apply CW.quiet1 mixed; (· kernel_rfl); rotate_left; intro w1 hw1; replace hw := Ext.trans hw hw1; replace hO := hO.ext hw1; replace hb4 := hb4.ext hw1; replace hb5 := hb5.ext hw1; clear hw1; rotate_right)) | (show Post _ _ _ _ _; first | refine Post.seq ?_ | refine Post.blk ?_) | refine SW.nil ?_ | refine SW.pure rfl rfl ?_ | (show SW _ _ _ _ (⟨_, Op.fieldAddr _ _ _, _, _, _, none⟩ :: _) _ _; refine SW.st (st_field rfl) rfl ?_) | (show SW _ _ _ _ (⟨_, Op.binOp _ _ _ _ _, _, _, _, none⟩ :: _) _ _; refine SW.st (st_add rfl rfl (by omega) (by omega)) rfl ?_) | (show SW _ _ _ _ (⟨_, Op.indexAddr _ _ _, _, _, _, none⟩ :: _) _ _; refine SW.st (st_indexN rfl rfl (by assumption) (by omega)) rfl ?_) | (show SW _ _ _ _ (⟨_, Op.call ⟨.builtin .len, _, _⟩, _, _, _, none⟩ :: _) _ _; refine SW.st (st_len rfl) rfl ?_) | (show SW _ _ _ _ (⟨_, Op.load _ _, _, _, _, none⟩ :: _) _ _; first | refine SW.st (st_loads rfl rfl ((fun _ _ => hb4.cell))) rfl ?_ | refine SW.st (st_load rfl (hb5.cell rfl)) rfl ?_ | refine SW.st (st_load rfl (hO.sl.one hjn rfl)) rfl ?_) | (show SW _ _ _ _ (⟨_, Op.call ⟨.value (.func _), _, _⟩, _, _, _, none⟩ :: _) _ _; refine SW.qcall rfl rfl (fun w1 hw1 => (cO _)) ?_) | exact SW.qnil rfl)
          exact Post.again (j + 1) ⟨rfl, rfl, rfl, rfl, trivial⟩ (by omega) ⟨by omega, hw, hO, hb4, hb5, fun i h h' => by
            by_cases e : i = j
            · subst e; exact ho
            · exact hI i h (by omega)⟩
      · repeat' (first | (show CW _ _ _ _ _ _; first | refine CW.seq ?_ | refine CW.region ?_ | refine CW.condd_f rfl (by omega) ?_ | refine CW.ret ?_ | refine CW.exit ?_) | (show Post _ _ _ _ _; first | refine Post.seq ?_ | refine Post.seq_exit ?_ | refine Post.hit ?_ | refine Post.again_exit ?_) | refine SW.nil ?_ | refine SW.pure rfl rfl ?_ | (show SW _ _ _ _ (⟨_, Op.call ⟨.builtin .len, _, _⟩, _, _, _, none⟩ :: _) _ _; refine SW.st (st_len rfl) rfl ?_))
        refine Post.ret2 rfl rfl rfl ⟨_, rfl, hw, .inl ⟨out, A, k, ⟨hF, hfree, fun a ha => ?_⟩, rfl, hO, hlen⟩⟩
        obtain ⟨i, hi, rfl⟩ := List.getElem_of_mem ha
        exact hI i hi (by omega)
    · repeat' (first | (show CW _ _ _ _ _ _; first | refine CW.seq ?_ | refine CW.region ?_ | refine CW.condn_t rfl (by omega) ?_ | refine CW.ret ?_) | (show Post _ _ _ _ _; first | refine Post.seq ?_ | refine Post.seq_ret ?_) | refine SW.nil ?_ | (show SW _ _ _ _ (⟨_, _, _, _, _, some _⟩ :: _) _ _; first | refine SW.want_f rfl rfl (by with_reducible rfl) ?_ | refine SW.splitn_f rfl rfl rfl (by omega) ?_) | refine SW.pure rfl rfl ?_ | (show SW _ _ _ _ (⟨_, Op.fieldAddr _ _ _, _, _, _, none⟩ :: _) _ _; refine SW.st (st_field rfl) rfl ?_) | (show SW _ _ _ _ (⟨_, Op.call ⟨.builtin .len, _, _⟩, _, _, _, none⟩ :: _) _ _; refine SW.st (st_len rfl) rfl ?_) | (show SW _ _ _ _ (⟨_, Op.load _ _, _, _, _, none⟩ :: _) _ _; refine SW.st (st_load rfl (hb5.cell rfl)) rfl ?_))
      all_goals first | (exfalso; omega) | skip
      refine Post.ret2 rfl rfl rfl ⟨_, rfl, hw, .inr ⟨fun o h => ?_, rfl⟩⟩
      have e := hF.det h.1
      injection e with e
      subst e
      exact hfree h.2.1
end Go.Proofs.YtfommgdbahemfaaDoor

/-
  Contracts: pages.list, pages.live; listOf of the reference.
-/
set_option linter.unusedVariables false
set_option linter.unusedSimpArgs false
namespace Go.Proofs.YtfommgdbahemfaaDoor
open Go.RowKit

/-- the key of a row is the list's -/
def rowKey (y : LRow) (x : PList) : Prop := y.Cpu = x.Cpu ∧ y.Zone = x.Zone ∧ y.Ty = x.Ty
theorem RdL.key {w : World} {r : LRow} {l : PList} (h : RdL w r l) : rowKey r l := ⟨h.cpu, h.zone, h.ty⟩

theorem plist_ans (r : HRow) (L : List PList) (ls : List LRow) (x : PList) (y : LRow) (w : World) (hl : RdLs w r.Lists ls L) (hk : rowKey y x) (hn : r.Lists.n ≤ 1000000000000000000) :
    Ans Tryd.prog 121 [.agg (encH r).toArray, .agg (encL y).toArray] w fun v _ => v = .tuple #[.int .i64 (kpos L x : Int), .bool (khere L x)] := by
  refine ans_of Tryd.func121 rfl Tryd.ntmps121 rfl ?_
  refine CW.seq (CW.region (SW.box rfl rfl fun b2 w1 hw hb2b hb2 => ?_))
  refine SW.box rfl rfl fun b3 w2 hw2 hb3b hb3 => ?_
  (replace hw := Ext.trans hw hw2; replace hb2 := hb2.ext hw2)
  obtain ⟨l1, l2⟩ := hl.len
  have hA := hl.row.base
  repeat' (first | (show CW _ _ _ _ _ _; first | refine CW.seq ?_ | refine CW.region ?_ | refine CW.block ?_) | (show Post _ _ _ _ _; refine Post.seq ?_) | refine SW.nil ?_ | refine SW.pure rfl rfl ?_)
  refine CW.loop (fun i : Nat => [(2, .pointer (some ⟨b2, 0, none⟩)), (3, .pointer (some ⟨b3, 0, none⟩)), (6, .int .i64 (i : Int))])
    (fun i w' => i ≤ r.Lists.n ∧ Ext w w' ∧ Blk w' b2 35 (encH r) ∧ Blk w' b3 84 (encL y) ∧ ∀ (k : Nat) (h : k < L.length), k < i → aheadL L[k] x) (fun i => r.Lists.n - i) 0
    ⟨rfl, rfl, rfl, trivial⟩ ⟨by omega, hw, hb2, hb3, fun k h h' => by omega⟩ ?_
  clear hw hb2 hb3
  rintro i w' ⟨hi, hw, hb2, hb3, hI⟩
  by_cases hin : i < r.Lists.n
  · have hil : i < L.length := by omega
    have hils : i < ls.length := by omega
    have hrd := hl.each.get i hils hil
    obtain ⟨q, hq⟩ : ∃ q, decide (aheadL L[i] x) = q := ⟨_, rfl⟩
    obtain ⟨p, hp⟩ : ∃ p, decide (aheadL x L[i]) = p := ⟨_, rfl⟩
    have cL : ∀ w', Ans Tryd.prog 119 [.agg (encL ls[i]).toArray, .agg (encL y).toArray] w' fun v _ => v = .bool q := fun w' => by
      have := lessL_ans ls[i] y L[i] x w' hrd.key hk
      rwa [hq] at this
    have cR : ∀ w', Ans Tryd.prog 119 [.agg (encL y).toArray, .agg (encL ls[i]).toArray] w' fun v _ => v = .bool p := fun w' => by
      have := lessL_ans y ls[i] x L[i] w' hk hrd.key
      rwa [hp] at this
    cases q
    · have hno := of_decide_eq_false hq
      have ek : kpos L x = i := kpos_spec (by omega) hI (fun _ => hno)
      have eh : khere L x = !p := by
        unfold khere
        simp only [ek, dif_pos hil, ← hp]
        rcases ahead_tri L[i] x with e | e | e
        · exact absurd e hno
        · have : ¬ aheadL x L[i] := by unfold aheadL keyEq at *; omega
          simp [e, this]
        · have := (ahead_not e).2.1
          simp [e, this]
      rw [ek, eh]
      cases p
      all_goals
        repeat' (first | (show CW _ _ _ _ _ _; first | refine CW.seq ?_ | refine CW.condfr rfl (by with_reducible rfl) ?_ | refine CW.ret ?_ | refine CW.exit ?_ | (apply CW.quiet1 mixed; (· kernel_rfl); rotate_left; intro w1 hw1; replace hw := Ext.trans hw hw1; replace hb2 := hb2.ext hw1; replace hb3 := hb3.ext hw1; clear hw1; rotate_right)) | (show Post _ _ _ _ _; first | refine Post.seq ?_ | refine Post.seq_exit ?_ | refine Post.hit ?_ | refine Post.again_exit ?_) | (show SW _ _ _ _ (⟨_, _, _, _, _, some _⟩ :: _) _ _; first | refine SW.want_t rfl rfl (by with_reducible rfl) ?_ | refine SW.splitd_t rfl rfl rfl (by omega) ?_) | refine SW.pure rfl rfl ?_ | (show SW _ _ _ _ (⟨_, Op.fieldAddr _ _ _, _, _, _, none⟩ :: _) _ _; refine SW.st (st_field rfl) rfl ?_) | (show SW _ _ _ _ (⟨_, Op.indexAddr _ _ _, _, _, _, none⟩ :: _) _ _; refine SW.st (st_indexN rfl rfl (by assumption) (by omega)) rfl ?_) | (show SW _ _ _ _ (⟨_, Op.call ⟨.builtin .len, _, _⟩, _, _, _, none⟩ :: _) _ _; refine SW.st (st_len rfl) rfl ?_) | (show SW _ _ _ _ (⟨_, Op.load _ _, _, _, _, none⟩ :: _) _ _; first | refine SW.st (st_load rfl (hb2.cell (i := 3) (v := .slice r.Lists.A r.Lists.n r.Lists.c) rfl)) rfl ?_ | refine SW.st (st_loadsx hw rfl rfl ((hl.row.all hin))) rfl ?_ | refine SW.st (st_loads rfl rfl ((fun _ _ => hb3.cell))) rfl ?_) | (show SW _ _ _ _ (⟨_, Op.call ⟨.value (.func _), _, _⟩, _, _, _, none⟩ :: _) _ _; first | refine SW.qcall rfl rfl (fun w1 hw1 => (cL _)) ?_ | refine SW.qcall rfl rfl (fun w1 hw1 => (cR _)) ?_) | exact SW.qnil rfl)
        exact Post.ret2 rfl rfl rfl ⟨_, rfl, hw, rfl⟩
    · have hyes := of_decide_eq_true hq
      repeat' (first | (show CW _ _ _ _ _ _; first | refine CW.seq ?_ | refine CW.region ?_ | refine CW.block ?_ | refine CW.condtr rfl (by with_reducible rfl) ?_ | refine CW.skip ?_ | (apply CW.quiet1 mixed; (· kernel_rfl); rotate_left; intro w1 hw1; replace hw := Ext.trans hw hw1; replace hb2 := hb2.ext hw1; replace hb3 := hb3.ext hw1; clear hw1; rotate_right)) | (show Post _ _ _ _ _; first | refine Post.seq ?_ | refine Post.blk ?_) | refine SW.nil ?_ | (show SW _ _ _ _ (⟨_, _, _, _, _, some _⟩ :: _) _ _; first | refine SW.want_t rfl rfl (by with_reducible rfl) ?_ | refine SW.splitd_t rfl rfl rfl (by omega) ?_) | refine SW.pure rfl rfl ?_ | (show SW _ _ _ _ (⟨_, Op.fieldAddr _ _ _, _, _, _, none⟩ :: _) _ _; refine SW.st (st_field rfl) rfl ?_) | (show SW _ _ _ _ (⟨_, Op.binOp _ _ _ _ _, _, _, _, none⟩ :: _) _ _; refine SW.st (st_add rfl rfl (by omega) (by omega)) rfl ?_) | (show SW _ _ _ _ (⟨_, Op.indexAddr _ _ _, _, _, _, none⟩ :: _) _ _; refine SW.st (st_indexN rfl rfl (by assumption) (by omega)) rfl ?_) | (show SW _ _ _ _ (⟨_, Op.call ⟨.builtin .len, _, _⟩, _, _, _, none⟩ :: _) _ _; refine SW.st (st_len rfl) rfl ?_) | (show SW _ _ _ _ (⟨_, Op.load _ _, _, _, _, none⟩ :: _) _ _; first | refine SW.st (st_load rfl (hb2.cell (i := 3) (v := .slice r.Lists.A r.Lists.n r.Lists.c) rfl)) rfl ?_ | refine SW.st (st_loadsx hw rfl rfl ((hl.row.all hin))) rfl ?_ | refine SW.st (st_loads rfl rfl ((fun _ _ => hb3.cell))) rfl ?_) | (show SW _ _ _ _ (⟨_, Op.call ⟨.value (.func _), _, _⟩, _, _, _, none⟩ :: _) _ _; refine SW.qcall rfl rfl (fun w1 hw1 => (cL _)) ?_) | exact SW.qnil rfl)
      exact Post.again (i + 1) ⟨rfl, rfl, rfl, trivial⟩ (by omega) ⟨by omega, hw, hb2, hb3, fun k h h' => by
        by_cases e : k = i
        · subst e; exact hyes
        · exact hI k h (by omega)⟩
  · have ek : kpos L x = i := kpos_spec (by omega) hI (fun h => by omega)
    have eh : khere L x = false := by unfold khere; rw [dif_neg (by omega)]
    rw [ek, eh]
    repeat' (first | (show CW _ _ _ _ _ _; first | refine CW.seq ?_ | refine CW.condfr rfl (by with_reducible rfl) ?_ | refine CW.ret ?_ | refine CW.exit ?_ | (apply CW.quiet1 mixed; (· kernel_rfl); rotate_left; intro w1 hw1; replace hw := Ext.trans hw hw1; replace hb2 := hb2.ext hw1; replace hb3 := hb3.ext hw1; clear hw1; rotate_right)) | (show Post _ _ _ _ _; first | refine Post.seq ?_ | refine Post.seq_exit ?_ | refine Post.hit ?_ | refine Post.again_exit ?_) | (show SW _ _ _ _ (⟨_, _, _, _, _, some _⟩ :: _) _ _; first | refine SW.skip_t rfl rfl (by with_reducible rfl) rfl ?_ | refine SW.splitd_f rfl rfl rfl (by omega) ?_) | refine SW.pure rfl rfl ?_ | (show SW _ _ _ _ (⟨_, Op.fieldAddr _ _ _, _, _, _, none⟩ :: _) _ _; refine SW.st (st_field rfl) rfl ?_) | (show SW _ _ _ _ (⟨_, Op.call ⟨.builtin .len, _, _⟩, _, _, _, none⟩ :: _) _ _; refine SW.st (st_len rfl) rfl ?_) | (show SW _ _ _ _ (⟨_, Op.load _ _, _, _, _, none⟩ :: _) _ _; refine SW.st (st_load rfl (hb2.cell (i := 3) (v := .slice r.Lists.A r.Lists.n r.Lists.c) rfl)) rfl ?_) | exact SW.qnil rfl)
    exact Post.ret2 rfl rfl rfl ⟨_, rfl, hw, rfl⟩

/-! the blocks that were given away -/
theorem BinaryNone_ans (A : Option Addr) (n c : Nat) (l : List Block) (a : Int) (w : World) (hl : Sl w 3 encBk A n l) (f : FuncId) [Body Tryd.prog f] (cv : Block → Int) (hf : ∀ x ∈ l, ∀ w', Ext w w' → Ans Tryd.prog f ([.agg (encBk x).toArray, .int .i64 a] ++ []) w' fun v _ => v = .int .i64 (cv x))
    (hne : ∀ x ∈ l, cv x ≠ 0) (hn : n ≤ 1000000000000000000) : Ans Tryd.prog 60 [.slice A n c, .int .i64 a, .func (.func f) #[] #[]] w fun v _ => ∃ i : Nat, v = .tuple #[.int .i64 (i : Int), .bool false] := by
  refine ans_of Tryd.func60 rfl Tryd.ntmps60 rfl ?_
  have hw := Ext.refl w
  have hA := hl.base
  have hll := hl.len
  repeat' (first | (show CW _ _ _ _ _ _; first | refine CW.seq ?_ | refine CW.region ?_ | refine CW.block ?_) | (show Post _ _ _ _ _; refine Post.seq ?_) | refine SW.nil ?_ | refine SW.pure rfl rfl ?_ | (show SW _ _ _ _ (⟨_, Op.call ⟨.builtin .len, _, _⟩, _, _, _, none⟩ :: _) _ _; refine SW.st (st_len rfl) rfl ?_))
  refine CW.loop (fun s : Nat × Nat => [(0, .slice A n c), (1, .int .i64 a), (2, .func (.func f) #[] #[]), (8, .int .i64 (n : Int)), (9, .int .i64 (s.1 : Int)), (10, .int .i64 (s.2 : Int))])
    (fun s w' => s.1 ≤ s.2 ∧ s.2 ≤ n ∧ Ext w w') (fun s => s.2 - s.1) (0, n)
    ⟨rfl, rfl, rfl, rfl, rfl, rfl, trivial⟩ ⟨by omega, by omega, hw⟩ ?_
  clear hw
  rintro ⟨i, j⟩ w' ⟨hij, hjn, hw⟩
  simp only at hij hjn ⊢
  by_cases hlt : i < j
  · have hk : (i + j) / 2 < n := by omega
    have hkl := hl.lt hk
    have hfk := fun w1 h1 => hf (l[(i + j) / 2]) (List.getElem_mem hkl) w1 h1
    repeat' (first | (show CW _ _ _ _ _ _; first | refine CW.seq ?_ | refine CW.region ?_ | refine CW.block ?_ | refine CW.condd_t rfl (by omega) ?_ | refine CW.skip ?_) | (show Post _ _ _ _ _; refine Post.seq ?_) | refine SW.nil ?_ | refine SW.pure rfl rfl ?_ | (show SW _ _ _ _ (⟨_, Op.binOp _ _ _ _ _, _, _, _, none⟩ :: _) _ _; refine SW.st (st_add rfl rfl (by omega) (by omega)) rfl ?_) | (show SW _ _ _ _ (⟨_, Op.indexAddr _ _ _, _, _, _, none⟩ :: _) _ _; refine SW.st (st_indexN rfl rfl (by assumption) (by omega)) rfl ?_) | (show SW _ _ _ _ (⟨_, Op.load _ _, _, _, _, none⟩ :: _) _ _; refine SW.st (st_loadsx hw rfl rfl ((hl.all hk))) rfl ?_) | (refine SW.st ((st_convI Tryd.underlying3 und_uint rfl).eq (congrArg (Value.int .u64) (wrap_u64 (by omega) (by omega)))) rfl ?_) | (refine SW.st ((st_convI und_uint Tryd.underlying3 rfl).eq (congrArg (Value.int .i64) (wrap_in (by omega) (by omega)))) rfl ?_) | (refine SW.st (st_shr1 rfl rfl) rfl ?_))
    refine SW.callv (cap := []) rfl rfl rfl (hfk _ hw) fun v w1 hw1 hv => ?_
    subst hv
    replace hw := Ext.trans hw hw1
    by_cases hcmp : cv l[(i + j) / 2] < 0
    · repeat' (first | (show CW _ _ _ _ _ _; first | refine CW.region ?_ | refine CW.condd_t rfl (by omega) ?_) | (show Post _ _ _ _ _; first | refine Post.seq ?_ | refine Post.blk ?_) | refine SW.nil ?_ | refine SW.pure rfl rfl ?_ | (show SW _ _ _ _ (⟨_, Op.binOp _ _ _ _ _, _, _, _, none⟩ :: _) _ _; refine SW.st (st_add rfl rfl (by omega) (by omega)) rfl ?_))
      exact Post.again ((i + j) / 2 + 1, j) ⟨rfl, rfl, rfl, rfl, congrArg (fun z => some (Value.int .i64 z)) (by omega), rfl, trivial⟩ (by simp only; omega) ⟨by simp only; omega, hjn, hw⟩
    · repeat' (first | (show CW _ _ _ _ _ _; first | refine CW.region ?_ | refine CW.condd_f rfl (by omega) ?_) | (show Post _ _ _ _ _; first | refine Post.seq ?_ | refine Post.blk ?_) | refine SW.nil ?_ | refine SW.pure rfl rfl ?_)
      exact Post.again (i, (i + j) / 2) ⟨rfl, rfl, rfl, rfl, rfl, congrArg (fun z => some (Value.int .i64 z)) (by omega), trivial⟩ (by simp only; omega) ⟨by simp only; omega, by simp only; omega, hw⟩
  · obtain rfl : i = j := by omega
    by_cases hin : i < n
    · have hkl := hl.lt hin
      have hfk := fun w1 h1 => hf (l[i]) (List.getElem_mem hkl) w1 h1
      have h0 := hne (l[i]) (List.getElem_mem hkl)
      repeat' (first | (show CW _ _ _ _ _ _; first | refine CW.seq ?_ | refine CW.region ?_ | refine CW.condd_f rfl (by omega) ?_ | refine CW.exit ?_) | (show Post _ _ _ _ _; first | refine Post.seq ?_ | refine Post.seq_exit ?_ | refine Post.hit ?_ | refine Post.again_exit ?_) | refine SW.nil ?_ | (show SW _ _ _ _ (⟨_, _, _, _, _, some _⟩ :: _) _ _; first | refine SW.want_t rfl rfl (by with_reducible rfl) ?_ | refine SW.splitd_t rfl rfl rfl (by omega) ?_) | refine SW.pure rfl rfl ?_ | (show SW _ _ _ _ (⟨_, Op.indexAddr _ _ _, _, _, _, none⟩ :: _) _ _; refine SW.st (st_indexN rfl rfl (by assumption) (by omega)) rfl ?_) | (show SW _ _ _ _ (⟨_, Op.load _ _, _, _, _, none⟩ :: _) _ _; refine SW.st (st_loadsx hw rfl rfl ((hl.all hin))) rfl ?_))
      refine SW.callv (cap := []) rfl rfl rfl (hfk _ hw) fun v w1 hw1 hv => ?_
      subst hv
      replace hw := Ext.trans hw hw1
      repeat' (first | (show CW _ _ _ _ _ _; refine CW.ret ?_) | (show Post _ _ _ _ _; refine Post.seq ?_) | refine SW.nil ?_ | (show SW _ _ _ _ (⟨_, _, _, _, _, some _⟩ :: _) _ _; refine SW.want_t rfl rfl (by with_reducible rfl) ?_) | refine SW.pure rfl rfl ?_)
      refine Post.ret2 rfl rfl rfl ⟨_, rfl, hw, i, ?_⟩
      rw [decide_eq_false h0]
    · repeat' (first | (show CW _ _ _ _ _ _; first | refine CW.seq ?_ | refine CW.region ?_ | refine CW.condd_f rfl (by omega) ?_ | refine CW.ret ?_ | refine CW.exit ?_) | (show Post _ _ _ _ _; first | refine Post.seq ?_ | refine Post.seq_exit ?_ | refine Post.hit ?_ | refine Post.again_exit ?_) | refine SW.nil ?_ | (show SW _ _ _ _ (⟨_, _, _, _, _, some _⟩ :: _) _ _; first | refine SW.skip_t rfl rfl (by with_reducible rfl) rfl ?_ | refine SW.splitd_f rfl rfl rfl (by omega) ?_) | refine SW.pure rfl rfl ?_)
      exact Post.ret2 rfl rfl rfl ⟨_, rfl, hw, i, rfl⟩
theorem cmpLive_ans (x : Block) (a : Int) (w : World) : Ans Tryd.prog 93 ([.agg (encBk x).toArray, .int .i64 a] ++ []) w fun v _ => v = .int .i64 (IntKind.i64.wrap (x.At - a)) := by
  refine ans_of Tryd.func93 rfl Tryd.ntmps93 rfl ?_
  refine CW.seq (CW.region (SW.box rfl rfl fun b1 w1 hw hb1b hb1 => ?_))
  repeat' (first | (show CW _ _ _ _ _ _; first | refine CW.seq ?_ | refine CW.region ?_ | refine CW.ret ?_) | (show Post _ _ _ _ _; refine Post.seq ?_) | refine SW.nil ?_ | refine SW.pure rfl rfl ?_ | (show SW _ _ _ _ (⟨_, Op.fieldAddr _ _ _, _, _, _, none⟩ :: _) _ _; refine SW.st (st_field rfl) rfl ?_) | (show SW _ _ _ _ (⟨_, Op.load _ _, _, _, _, none⟩ :: _) _ _; refine SW.st (st_load rfl (hb1.cell rfl)) rfl ?_) | (refine SW.st (st_subw rfl rfl) rfl ?_))
  exact Post.ret1 rfl rfl ⟨_, rfl, hw, rfl⟩
theorem wrap_zero {z : Int} (h1 : -18446744073709551616 < z) (h2 : z < 18446744073709551616) (h : IntKind.i64.wrap z = 0) : z = 0 := by
  simp [IntKind.wrap, IntKind.bits, IntKind.signed] at h
  omega
/-- where a block that was given away stands -/
def LiveOut (l : List Block) (a : Int) (v : Value) : Prop := (foundA l a = true → v = .tuple #[.int .i64 (lbOf l a : Int), .bool true]) ∧ (foundA l a = false → ∃ i : Nat, v = .tuple #[.int .i64 (i : Int), .bool false])
theorem plive_ans (r : HRow) (l : List Block) (a : Int) (w : World) (hl : Sl w 3 encBk r.Live.A r.Live.n l) (hu : l.Pairwise fun x y => x.At < y.At) (hb : ∀ b ∈ l, 0 ≤ b.At ∧ b.At ≤ 255) (hn : r.Live.n ≤ 1000000000000000000) (ha : -9223372036854775808 ≤ a ∧ a ≤ 9223372036854775807) :
    Ans Tryd.prog 47 [.agg (encH r).toArray, .int .i64 a] w fun v _ => LiveOut l a v := by
  refine ans_of Tryd.func47 rfl Tryd.ntmps47 rfl ?_
  refine CW.seq (CW.region (SW.box rfl rfl fun b1 w1 hw hb1b hb1 => ?_))
  repeat' (first | (show CW _ _ _ _ _ _; first | refine CW.seq ?_ | refine CW.region ?_) | (show Post _ _ _ _ _; refine Post.seq ?_) | refine SW.nil ?_ | refine SW.pure rfl rfl ?_ | (show SW _ _ _ _ (⟨_, Op.fieldAddr _ _ _, _, _, _, none⟩ :: _) _ _; refine SW.st (st_field rfl) rfl ?_) | (show SW _ _ _ _ (⟨_, Op.load _ _, _, _, _, none⟩ :: _) _ _; refine SW.st (st_load rfl (hb1.cell (i := 4) (v := .slice r.Live.A r.Live.n r.Live.c) rfl)) rfl ?_))
  by_cases hin : -1000000 ≤ a ∧ a ≤ 1000000
  · refine SW.call rfl rfl (BinaryBlock_ans _ _ _ _ a _ (hl.ext hw) _ (fun x hx w' _ => by
      have := cmpLive_ans x a w'
      have h := hb x hx
      rwa [wrap_in (by omega) (by omega)] at this) hu hn) fun v w2 hw2 hv => ?_
    subst hv
    replace hw := Ext.trans hw hw2
    repeat' (first | (show CW _ _ _ _ _ _; refine CW.ret ?_) | (show Post _ _ _ _ _; refine Post.seq ?_) | refine SW.nil ?_ | refine SW.pure rfl rfl ?_)
    refine Post.ret2 rfl rfl rfl ⟨_, rfl, hw, ?_⟩
    exact ⟨fun h => by rw [h]; rfl, fun h => ⟨lbOf l a, by rw [h]; rfl⟩⟩
  · have hf : foundA l a = false := by
      unfold foundA
      split
      · rename_i h
        have := hb _ (List.getElem_mem h)
        exact decide_eq_false (by omega)
      · rfl
    refine SW.call rfl rfl (BinaryNone_ans _ _ _ _ a _ (hl.ext hw) _ (fun x => IntKind.i64.wrap (x.At - a)) (fun x hx w' _ => cmpLive_ans x a w') (fun x hx h0 => by
      have h := hb x hx
      have := wrap_zero (by omega) (by omega) h0
      omega) hn) fun v w2 hw2 hv => ?_
    obtain ⟨i, rfl⟩ := hv
    replace hw := Ext.trans hw hw2
    repeat' (first | (show CW _ _ _ _ _ _; refine CW.ret ?_) | (show Post _ _ _ _ _; refine Post.seq ?_) | refine SW.nil ?_ | refine SW.pure rfl rfl ?_)
    refine Post.ret2 rfl rfl rfl ⟨_, rfl, hw, ?_⟩
    exact ⟨fun h => absurd (hf.symm.trans h) (by simp), fun _ => ⟨i, rfl⟩⟩

/-- the pages of a list, of its own -/
theorem listOf_ans (r : HRow) (L : List PList) (ls : List LRow) (x : PList) (w : World) (hl : RdLs w r.Lists ls L) (hs : LsS L) (hn : r.Lists.n ≤ 1000000000000000000) (hp : ∀ l ∈ L, l.Pages.length * 8 ≤ 140737488355328) :
    Ans Tryd.prog 98 [.agg (encH r).toArray, .int .i64 x.Cpu, .int .i64 x.Zone, .int .i64 x.Ty] w fun v w' => ∃ A c, v = .slice A (pagesAt L x).length c ∧ Own w' w.heap.size 3 1 encI A (pagesAt L x).length c (pagesAt L x) := by
  refine ans_of Tryd.func98 rfl Tryd.ntmps98 rfl ?_
  refine CW.seq (CW.region (SW.box rfl rfl fun b4 w1 hw hb4b hb4 => ?_))
  obtain ⟨l1, l2⟩ := hl.len
  have hA := hl.row.base
  repeat' (first | (show CW _ _ _ _ _ _; first | refine CW.seq ?_ | refine CW.region ?_ | refine CW.block ?_) | (show Post _ _ _ _ _; refine Post.seq ?_) | refine SW.nil ?_ | refine SW.pure rfl rfl ?_)
  refine CW.loop (fun i : Nat => [(1, .int .i64 x.Cpu), (2, .int .i64 x.Zone), (3, .int .i64 x.Ty), (4, .pointer (some ⟨b4, 0, none⟩)), (9, .int .i64 (i : Int))])
    (fun i w' => i ≤ r.Lists.n ∧ Ext w w' ∧ Blk w' b4 35 (encH r) ∧ ∀ (k : Nat) (h : k < L.length), k < i → ¬ keyEq L[k] x) (fun i => r.Lists.n - i) 0
    ⟨rfl, rfl, rfl, rfl, rfl, trivial⟩ ⟨by omega, hw, hb4, fun k h h' => by omega⟩ ?_
  clear hw hb4
  rintro i w' ⟨hi, hw, hb4, hI⟩
  by_cases hin : i < r.Lists.n
  · have hil : i < L.length := by omega
    have hils : i < ls.length := by omega
    have hrd := hl.each.get i hils hil
    have e1 := hrd.cpu
    have e2 := hrd.zone
    have e3 := hrd.ty
    have hpl := hrd.pages.len
    have hp1 := hp _ (List.getElem_mem hil)
    have g0 := hl.row.fld hin (j := 0) (u := .int .i64 ls[i].Cpu) rfl
    have g1 := hl.row.fld hin (j := 1) (u := .int .i64 ls[i].Zone) rfl
    have g2 := hl.row.fld hin (j := 2) (u := .int .i64 ls[i].Ty) rfl
    have g3 := hl.row.fld hin (j := 3) (u := .slice ls[i].Pages.A ls[i].Pages.n ls[i].Pages.c) rfl
    by_cases hk : keyEq L[i] x
    · obtain ⟨k1, k2, k3⟩ := id hk
      obtain ⟨ek, eh⟩ := key_at hs hil hk
      have ep : pagesAt L x = L[i].Pages := by
        rw [pagesAt_t eh (by omega)]
        simp only [ek]
      rw [ep]
      repeat' (first | (show CW _ _ _ _ _ _; first | refine CW.seq ?_ | refine CW.region ?_ | refine CW.block ?_ | refine CW.condd_t rfl (by omega) ?_ | refine CW.skip ?_) | (show Post _ _ _ _ _; refine Post.seq ?_) | refine SW.nil ?_ | (show SW _ _ _ _ (⟨_, _, _, _, _, some _⟩ :: _) _ _; first | refine SW.want_t rfl rfl (by with_reducible rfl) ?_ | refine SW.splitd_t rfl rfl rfl (by omega) ?_) | refine SW.pure rfl rfl ?_ | (show SW _ _ _ _ (⟨_, Op.fieldAddr _ _ _, _, _, _, none⟩ :: _) _ _; refine SW.st (st_field rfl) rfl ?_) | (show SW _ _ _ _ (⟨_, Op.indexAddr _ _ _, _, _, _, none⟩ :: _) _ _; refine SW.st (st_indexN rfl rfl (by assumption) (by omega)) rfl ?_) | (show SW _ _ _ _ (⟨_, Op.call ⟨.builtin .len, _, _⟩, _, _, _, none⟩ :: _) _ _; refine SW.st (st_len rfl) rfl ?_) | (show SW _ _ _ _ (⟨_, Op.load _ _, _, _, _, none⟩ :: _) _ _; first | refine SW.st (st_load rfl (hb4.cell (i := 3) (v := .slice r.Lists.A r.Lists.n r.Lists.c) rfl)) rfl ?_ | refine SW.st (st_loadx hw rfl g0) rfl ?_ | refine SW.st (st_loadx hw rfl g1) rfl ?_ | refine SW.st (st_loadx hw rfl g2) rfl ?_ | refine SW.st (st_loadx hw rfl g3) rfl ?_))
      all_goals first | (exfalso; omega) | skip
      refine SW.call rfl rfl (words_ans _ _ _ _ _ (hrd.pages.ext hw) (by omega)) fun v w4 hXX hv => ?_
      obtain ⟨X, c4, rfl, hX⟩ := hv
      replace hX := hX.low hw.size
      replace hw := Ext.trans hw hXX
      repeat' (first | (show CW _ _ _ _ _ _; refine CW.ret ?_) | (show Post _ _ _ _ _; first | refine Post.seq ?_ | refine Post.seq_ret ?_ | refine Post.blk_ret ?_ | refine Post.again_ret ?_) | refine SW.nil ?_ | refine SW.pure rfl rfl ?_)
      refine Post.ret1 rfl rfl ⟨_, rfl, hw, X, c4, by rw [hpl], by rw [hpl]; exact hX⟩
    · have hk' : ¬ (ls[i].Cpu = x.Cpu ∧ ls[i].Zone = x.Zone ∧ ls[i].Ty = x.Ty) := by unfold keyEq at hk; omega
      repeat' (first | (show CW _ _ _ _ _ _; first | refine CW.seq ?_ | refine CW.region ?_ | refine CW.block ?_ | refine CW.condfr rfl (by with_reducible rfl) ?_ | refine CW.condd_t rfl (by omega) ?_ | refine CW.condd_f rfl (by omega) ?_ | refine CW.skip ?_) | (show Post _ _ _ _ _; first | refine Post.seq ?_ | refine Post.blk ?_) | refine SW.nil ?_ | (show SW _ _ _ _ (⟨_, _, _, _, _, some _⟩ :: _) _ _; first | refine SW.want_t rfl rfl (by with_reducible rfl) ?_ | refine SW.skip_t rfl rfl (by with_reducible rfl) rfl ?_ | refine SW.splitd rfl rfl rfl (fun h => ?_) (fun h => ?_)) | refine SW.pure rfl rfl ?_ | (show SW _ _ _ _ (⟨_, Op.fieldAddr _ _ _, _, _, _, none⟩ :: _) _ _; refine SW.st (st_field rfl) rfl ?_) | (show SW _ _ _ _ (⟨_, Op.binOp _ _ _ _ _, _, _, _, none⟩ :: _) _ _; refine SW.st (st_add rfl rfl (by omega) (by omega)) rfl ?_) | (show SW _ _ _ _ (⟨_, Op.indexAddr _ _ _, _, _, _, none⟩ :: _) _ _; refine SW.st (st_indexN rfl rfl (by assumption) (by omega)) rfl ?_) | (show SW _ _ _ _ (⟨_, Op.call ⟨.builtin .len, _, _⟩, _, _, _, none⟩ :: _) _ _; refine SW.st (st_len rfl) rfl ?_) | (show SW _ _ _ _ (⟨_, Op.load _ _, _, _, _, none⟩ :: _) _ _; first | refine SW.st (st_load rfl (hb4.cell (i := 3) (v := .slice r.Lists.A r.Lists.n r.Lists.c) rfl)) rfl ?_ | refine SW.st (st_loadx hw rfl g0) rfl ?_ | refine SW.st (st_loadx hw rfl g1) rfl ?_ | refine SW.st (st_loadx hw rfl g2) rfl ?_))
      all_goals first | (exfalso; omega) | skip
      all_goals
        exact Post.again (i + 1) ⟨rfl, rfl, rfl, rfl, rfl, trivial⟩ (by omega) ⟨by omega, hw, hb4, fun k h h' => by
          by_cases e : k = i
          · subst e; exact hk
          · exact hI k h (by omega)⟩
  · have ep : pagesAt L x = [] := pagesAt_f (key_none fun k hk => hI k hk (by omega))
    rw [ep]
    repeat' (first | (show CW _ _ _ _ _ _; first | refine CW.seq ?_ | refine CW.region ?_ | refine CW.condd_f rfl (by omega) ?_ | refine CW.ret ?_ | refine CW.exit ?_) | (show Post _ _ _ _ _; first | refine Post.seq ?_ | refine Post.seq_exit ?_ | refine Post.hit ?_ | refine Post.again_exit ?_) | refine SW.nil ?_ | refine SW.pure rfl rfl ?_ | (show SW _ _ _ _ (⟨_, Op.fieldAddr _ _ _, _, _, _, none⟩ :: _) _ _; refine SW.st (st_field rfl) rfl ?_) | (show SW _ _ _ _ (⟨_, Op.call ⟨.builtin .len, _, _⟩, _, _, _, none⟩ :: _) _ _; refine SW.st (st_len rfl) rfl ?_) | (show SW _ _ _ _ (⟨_, Op.load _ _, _, _, _, none⟩ :: _) _ _; refine SW.st (st_load rfl (hb4.cell (i := 3) (v := .slice r.Lists.A r.Lists.n r.Lists.c) rfl)) rfl ?_))
    exact Post.ret1 rfl rfl ⟨_, rfl, hw, none, 0, rfl, Own.nil_ _ _ _ _ _ _⟩
end Go.Proofs.YtfommgdbahemfaaDoor
