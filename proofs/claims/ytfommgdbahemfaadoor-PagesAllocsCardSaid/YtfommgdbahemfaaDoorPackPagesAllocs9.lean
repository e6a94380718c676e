/-
  Texts of the claim PagesAllocs, part 9: what its theorem leans on.
-/
import Derived.Test.YtfommgdbahemfaaDoorPackPagesAllocs2
import Derived.Test.YtfommgdbahemfaaDoorPackPagesAllocs5
import Derived.Test.YtfommgdbahemfaaDoorPackPagesAllocs6
import Derived.Test.YtfommgdbahemfaaDoorPackPagesAllocs3
import Derived.Test.YtfommgdbahemfaaDoorPackPagesAllocs8
set_option linter.unusedVariables false
namespace Go.Proofs.YtfommgdbahemfaaDoor
def marksOf (p : Nat → Bool) (k : Nat) : List Bool := (List.range k).map p
theorem marksOf_get (p : Nat → Bool) (k i : Nat) (h : i < (marksOf p k).length) : (marksOf p k)[i] = p i := by simp [marksOf]
theorem marksOf_set (p : Nat → Bool) (k i : Nat) (b : Bool) : (marksOf p k).set i b = marksOf (fun j => if j = i then b else p j) k := by
 apply List.ext_getElem (by simp [marksOf])
 intro j h1 h2
 rw [List.getElem_set]
 by_cases h : i = j
 ·subst h; simp [marksOf]
 ·have : ¬ j = i := fun e => h e.symm
  simp [marksOf, h, this]
theorem marksOf_congr {p q : Nat → Bool} {k : Nat} (h : ∀ i, i < k → p i = q i) : marksOf p k = marksOf q k := by
 apply List.ext_getElem (by simp [marksOf])
 intro j h1 h2
 simp only [marksOf_get]
 exact h j (by simpa [marksOf] using h1)
end Go.Proofs.YtfommgdbahemfaaDoor
set_option linter.unusedVariables false
namespace Go.Proofs.YtfommgdbahemfaaDoor
def inB (b : Block) (i : Nat) : Bool := decide (b.At ≤ (i : Int)) && decide ((i : Int) < b.At + pw b.Order)
def covP (bs : List Block) (i : Nat) : Bool := bs.any fun b => inB b i
def fitsL (bs : List Block) (b : Block) : Prop := 0 ≤ b.At ∧ b.At + pw b.Order ≤ 256 ∧ overB bs b.At b.Order = false
instance (bs : List Block) (b : Block) : Decidable (fitsL bs b) := inferInstanceAs (Decidable (_ ∧ _))
def addB (s : Option (List Block)) (b : Block) : Option (List Block) := match s with
 | none => none
 | some bs => if fitsL bs b then some (bs ++ [b]) else none
def addAll (s : Option (List Block)) (l : List Block) : Option (List Block) := l.foldl addB s
theorem addAll_none : ∀ l, addAll none l = none
 | [] => rfl
 | b :: l => addAll_none l
theorem addAll_append (s : Option (List Block)) (l m : List Block) : addAll s (l ++ m) = addAll (addAll s l) m := List.foldl_append
theorem addAll_take (s : Option (List Block)) (l : List Block) (k : Nat) (h : k < l.length) : addAll s (l.take (k + 1)) = addB (addAll s (l.take k)) l[k] := by
 rw [List.take_succ_eq_append_getElem h, addAll_append]; rfl
theorem addB_some {s : Option (List Block)} {b : Block} {bs : List Block} (h : addB s b = some bs) : ∃ cs, s = some cs ∧ fitsL cs b ∧ bs = cs ++ [b] := by
 cases s with
 | none => simp [addB] at h
 | some cs =>
  simp only [addB] at h
  split at h
  ·rename_i hf; injection h with h; exact ⟨cs, rfl, hf, h.symm⟩
  ·cases h
def okM (p : Nat → Bool) (a n : Int) : Prop := 0 ≤ a ∧ a < 256 ∧ n ≤ 256 - a ∧ ∀ i : Nat, a ≤ (i : Int) → (i : Int) < a + n → p i = false
def addM (p : Nat → Bool) (a n : Int) (i : Nat) : Bool := p i || (decide (a ≤ (i : Int)) && decide ((i : Int) < a + n))
theorem okM_iff {bs : List Block} (hb : ∀ b ∈ bs, 0 ≤ b.At ∧ 1 ≤ pw b.Order) {b : Block} (h1 : 1 ≤ pw b.Order) : okM (covP bs) b.At (pw b.Order) ↔ fitsL bs b := by
 constructor
 ·rintro ⟨h2, h3, h4, h5⟩
  refine ⟨h2, by omega, ?_⟩
  unfold overB
  rw [List.any_eq_false]
  intro x hx hh
  simp only [Bool.and_eq_true, decide_eq_true_eq] at hh
  obtain ⟨k1, k2⟩ := hh
  obtain ⟨q1, q2⟩ := hb x hx
  have h6 := h5 (max x.At b.At).toNat (by omega) (by omega)
  unfold covP at h6
  rw [List.any_eq_false] at h6
  apply h6 x hx
  simp only [inB, Bool.and_eq_true, decide_eq_true_eq]
  omega
 ·rintro ⟨h2, h3, h4⟩
  refine ⟨h2, by omega, by omega, fun i k1 k2 => ?_⟩
  unfold covP
  rw [List.any_eq_false]
  intro x hx hh
  simp only [inB, Bool.and_eq_true, decide_eq_true_eq] at hh
  unfold overB at h4
  rw [List.any_eq_false] at h4
  apply h4 x hx
  simp only [Bool.and_eq_true, decide_eq_true_eq]
  omega
theorem addM_cov (bs : List Block) (b : Block) (i : Nat) : addM (covP bs) b.At (pw b.Order) i = covP (bs ++ [b]) i := by
 simp [addM, covP, inB]
def goodS (s : Option (List Block)) : Prop := ∀ bs, s = some bs → ∀ x ∈ bs, 0 ≤ x.At ∧ 1 ≤ pw x.Order
theorem goodS_nil : goodS (some []) := fun bs h x hx => by cases h; simp at hx
theorem goodS_add {s : Option (List Block)} {b : Block} (h : goodS s) (hb : 1 ≤ pw b.Order) : goodS (addB s b) := fun bs hbs x hx => by
 obtain ⟨cs, rfl, hf, rfl⟩ := addB_some hbs
 rcases List.mem_append.1 hx with hx | hx
 ·exact h cs rfl x hx
 ·simp at hx; subst hx; exact ⟨hf.1, hb⟩
theorem goodS_all {s : Option (List Block)} : ∀ {l : List Block}, goodS s → (∀ b ∈ l, 1 ≤ pw b.Order) → goodS (addAll s l)
 | [], h, _ => h
 | b :: l, h, hb => goodS_all (l := l) (goodS_add h (hb b (by simp))) (fun x hx => hb x (by simp [hx]))
def pageB (p : Int) : Block := ⟨p, 0, 0⟩
def pagesB (l : List PList) : List Block := l.flatMap fun x => x.Pages.map pageB
theorem pw_zero : pw 0 = 1 := by decide
def aheadL (a b : PList) : Prop := a.Cpu < b.Cpu ∨ (a.Cpu = b.Cpu ∧ (a.Zone < b.Zone ∨ (a.Zone = b.Zone ∧ a.Ty < b.Ty)))
instance (a b : PList) : Decidable (aheadL a b) := inferInstanceAs (Decidable (_ ∨ _))
def headOk (cpus : Int) (l : PList) : Prop := (0 ≤ l.Cpu ∧ l.Cpu < cpus) ∧ (0 ≤ l.Zone ∧ l.Zone ≤ 1) ∧ (0 ≤ l.Ty ∧ l.Ty ≤ 2) ∧ (1 ≤ l.Pages.length ∧ l.Pages.length ≤ 8)
instance (c : Int) (l : PList) : Decidable (headOk c l) := inferInstanceAs (Decidable (_ ∧ _))
structure ListsOk (cpus to : Int) (ls : List PList) : Prop where
 head : ∀ (i : Nat) (h : i < ls.length), headOk cpus ls[i]
 next : ∀ (i : Nat) (h : i + 1 < ls.length), aheadL ls[i] ls[i + 1]
 zone : ∀ (i : Nat) (h : i < ls.length), ∀ p ∈ (ls[i]).Pages, (p < to ↔ (ls[i]).Zone = 0)
def liveOk (b : Block) : Prop := (0 ≤ b.Order ∧ b.Order ≤ 4) ∧ (0 ≤ b.At ∧ b.At ≤ 255) ∧ b.At % pw b.Order = 0 ∧ tyOk b.Ty
structure LiveOk (l : List Block) : Prop where
 each : ∀ (i : Nat) (h : i < l.length), liveOk l[i]
 next : ∀ (i : Nat) (h : i + 1 < l.length), l[i].At < l[i + 1].At
structure HeapMay (h : Heap) : Prop where
 zones : ∃ z0 z1, h.Zones = [z0, z1] ∧ ZoneMay z0 ∧ ZoneMay z1 ∧ z0.From = 0 ∧ z0.To = z1.From ∧ z1.To = 256 ∧ ListsOk h.Cpus z0.To h.Lists ∧ (addAll (some []) (z0.Free ++ z1.Free ++ pagesB h.Lists ++ h.Live)).isSome = true
 mins : ∃ m0 m1, h.Mins = [m0, m1] ∧ (0 ≤ m0 ∧ m0 ≤ 256) ∧ (0 ≤ m1 ∧ m1 ≤ 256)
 cpus : 1 ≤ h.Cpus ∧ h.Cpus ≤ 4
 live : LiveOk h.Live
noncomputable def heapB (h : Heap) : Bool := @decide (HeapMay h) (Classical.propDecidable _)
theorem heapB_t {h : Heap} (a : HeapMay h) : heapB h = true := by unfold heapB; exact @decide_eq_true _ (Classical.propDecidable _) a
theorem heapB_f {h : Heap} (a : ¬ HeapMay h) : heapB h = false := by unfold heapB; exact @decide_eq_false _ (Classical.propDecidable _) a
theorem heapB_iff {h : Heap} : heapB h = true ↔ HeapMay h := by
 by_cases a : HeapMay h
 ·simp [heapB_t a, a]
 ·simp [heapB_f a, a]
theorem pagesB_take (l : List PList) (k : Nat) (h : k < l.length) : pagesB (l.take (k + 1)) = pagesB (l.take k) ++ l[k].Pages.map pageB := by
 unfold pagesB
 rw [List.take_succ_eq_append_getElem h, List.flatMap_append]
 simp
theorem addAll_some_of {s : Option (List Block)} {l m : List Block} (h : (addAll s (l ++ m)).isSome = true) : (addAll s l).isSome = true := by
 rw [addAll_append] at h
 cases e : addAll s l with
 | none => rw [e, addAll_none] at h; cases h
 | some x => rfl
end Go.Proofs.YtfommgdbahemfaaDoor
set_option linter.unusedVariables false
namespace Go.Proofs.YtfommgdbahemfaaDoor
open Go.RowKit
section
variable {P : Program} {L : Env} {w : World} {d : Option Nat} {T : TypeId} {pos : String} {af : Array Edge} {g : Option (Nat × Bool)}
theorem st_indexArr {t e : TypeId} {len sz : Nat} [c : ArrTy P t len e sz] {x y : Operand} {ad : Addr} {i : Int} (k : Nat) (hx : opv L x = some (.pointer (some ad))) (hy : opv L y = some (.int .i64 i)) (hi : i = (k : Int)) (hk : k < len) :
    St P ⟨d, .indexAddr t x y, T, pos, af, g⟩ L w (.pointer (some (ad.add (k * sz)))) :=
  ⟨fun _ a ha w' _ => by
    subst hi
    have e1 := ha.eval hx
    have e2 := ha.eval hy
    generalize a.eval = ρ at *
    simp [execOp, e1, e2, Instr.indexAt, Instr.sureAddr, asIntOf, run_underlying c.und, run_sizeOf c.size, hk]⟩
end
theorem Post.ret0 {P : Program} {fn : Func} {R : Ending → World → Prop} {n : Nat} {L : Env} {w : World} (hr : fn.results = #[]) (h : R (.returned (.tuple #[])) w) : Post n (bodyPost P fn R) .ret L w :=
  ⟨fun a ha => ⟨ha.defers, _, by simpa using ResIs.results (rs := []) hr .nil ha, h⟩⟩
theorem Post.end0 {P : Program} {fn : Func} {R : Ending → World → Prop} {n : Nat} {L : Env} {w : World} (hr : fn.results = #[]) (h : R (.returned (.tuple #[])) w) : Post n (bodyPost P fn R) .normal L w :=
  ⟨fun a ha => ⟨ha.defers, _, by simpa using ResIs.results (rs := []) hr .nil ha, h⟩⟩
def cellsM (p : Nat → Bool) (N : Nat) (bad : Bool) : List Value := (marksOf p N).map Value.bool ++ [.bool bad]
theorem cellsM_len (p : Nat → Bool) (N : Nat) (bad : Bool) : (cellsM p N bad).length = N + 1 := by simp [cellsM, marksOf]
theorem cellsM_bad (p : Nat → Bool) (N : Nat) (bad : Bool) : (cellsM p N bad)[N]? = some (.bool bad) := by
  unfold cellsM
  rw [List.getElem?_append_right (by simp [marksOf])]
  simp [marksOf]
theorem cellsM_at (p : Nat → Bool) (N : Nat) (bad : Bool) {i : Nat} (h : i < N) : (cellsM p N bad)[i]? = some (.bool (p i)) := by
  unfold cellsM
  rw [List.getElem?_append_left (by simp [marksOf]; omega)]
  simp [marksOf, h]
theorem cellsM_setBad (p : Nat → Bool) (N : Nat) (bad b : Bool) : (cellsM p N bad).set N (.bool b) = cellsM p N b := by
  unfold cellsM
  rw [List.set_append_right _ _ (by simp [marksOf])]
  simp [marksOf]
theorem cellsM_set (p : Nat → Bool) (N : Nat) (bad : Bool) {i : Nat} (h : i < N) : (cellsM p N bad).set i (.bool true) = cellsM (fun j => if j = i then true else p j) N bad := by
  unfold cellsM
  rw [List.set_append_left _ _ (by simp [marksOf]; omega), ← marksOf_set, List.map_set]
theorem cellsM_congr {p q : Nat → Bool} {N : Nat} {bad : Bool} (h : ∀ i, i < N → p i = q i) : cellsM p N bad = cellsM q N bad := by
  unfold cellsM; rw [marksOf_congr h]
set_option maxHeartbeats 4000000 in
theorem mark_ans (b : Nat) (p : Nat → Bool) (bad : Bool) (N : Nat) (hN : N = 256) (a n : Int) (w : World) (hB : Blk w b 125 (cellsM p N bad)) (hn : 0 ≤ n ∧ n ≤ 16) :
    AnsX Tryd.prog 88 [.pointer (some ⟨b, 0, none⟩), .int .i64 a, .int .i64 n] w fun v w' => ∃ p' bad', Blk w' b 125 (cellsM p' N bad') ∧ w.grownBy w' (some b) ∧ ((okM p a n ∧ bad' = bad ∧ p' = addM p a n) ∨ (¬ okM p a n ∧ bad' = true)) := by
  refine ansx_of Tryd.func88 rfl Tryd.ntmps88 rfl ?_
  have hg0 : w.grownBy w (some b) := World.grownBy.refl _ _
  have hw := Ext.refl w
  by_cases hin : 0 ≤ a ∧ a < 256 ∧ n ≤ 256 - a
  · obtain ⟨h1, h2, h3⟩ := id hin
    obtain ⟨k, rfl⟩ := Int.eq_ofNat_of_zero_le h1
    obtain ⟨m, rfl⟩ := Int.eq_ofNat_of_zero_le hn.1
    repeat' (first | (show CW _ _ _ _ _ _; first | refine CW.seq ?_ | refine CW.region ?_ | refine CW.block ?_ | refine CW.condd_f rfl (by omega) ?_ | refine CW.skip ?_) | (show Post _ _ _ _ _; refine Post.seq ?_) | refine SW.nil ?_ | (show SW _ _ _ _ (⟨_, _, _, _, _, some _⟩ :: _) _ _; first | refine SW.want_f rfl rfl (by with_reducible rfl) ?_ | refine SW.splitd_f rfl rfl rfl (by omega) ?_) | refine SW.pure rfl rfl ?_ | (show SW _ _ _ _ (⟨_, Op.binOp _ _ _ _ _, _, _, _, none⟩ :: _) _ _; refine SW.st (st_sub rfl rfl (by omega) (by omega)) rfl ?_))
    clear hw
    refine CW.loop (fun j : Nat => [(0, .pointer (some ⟨b, 0, none⟩)), (1, .int .i64 (k : Int)), (2, .int .i64 (m : Int)), (6, .int .i64 ((k + j : Nat) : Int))])
      (fun j w' => j ≤ m ∧ Blk w' b 125 (cellsM (addM p k (j : Int)) N bad) ∧ w.grownBy w' (some b) ∧ ∀ i : Nat, k ≤ i → i < k + j → p i = false) (fun j => m - j) 0
      ⟨rfl, rfl, rfl, rfl, trivial⟩ ⟨by omega, by rwa [cellsM_congr (q := p) (fun i _ => by simp [addM] <;> omega)], hg0, fun i h1 h2 => by omega⟩ ?_
    clear hB hg0
    rintro j w' ⟨hj, hB, hg, hI⟩
    have hw := Ext.refl w'
    by_cases hjm : j < m
    · have hlt : k + j < N := by omega
      have hc := hB.cell (cellsM_at _ N bad hlt)
      have hv : addM p k (j : Int) (k + j) = p (k + j) := by simp [addM]
      rw [hv] at hc
      have hc' : w'.cell? (((⟨b, 0, none⟩ : Addr).add 0).add ((k + j) * 1)) = some (.bool (p (k + j))) := by rw [add_add]; simpa using hc
      cases hp : p (k + j)
      · rw [hp] at hc'
        repeat' (first | (show CW _ _ _ _ _ _; first | refine CW.seq ?_ | refine CW.region ?_ | refine CW.block ?_ | refine CW.condfr rfl (by with_reducible rfl) ?_ | refine CW.condd_t rfl (by omega) ?_ | refine CW.skip ?_) | (show Post _ _ _ _ _; refine Post.seq ?_) | refine SW.nil ?_ | refine SW.pure rfl rfl ?_ | (show SW _ _ _ _ (⟨_, Op.fieldAddr _ _ _, _, _, _, none⟩ :: _) _ _; refine SW.st (st_field rfl) rfl ?_) | (show SW _ _ _ _ (⟨_, Op.nilCheck _, _, _, _, none⟩ :: _) _ _; refine SW.st (st_nilCheck rfl) rfl ?_) | (show SW _ _ _ _ (⟨_, Op.binOp _ _ _ _ _, _, _, _, none⟩ :: _) _ _; refine SW.st (st_add rfl rfl (by omega) (by omega)) rfl ?_) | (show SW _ _ _ _ (⟨_, Op.load _ _, _, _, _, none⟩ :: _) _ _; refine SW.st (st_load rfl (hc')) rfl ?_) | (refine SW.st (st_indexArr (k + j) rfl rfl rfl (by omega)) rfl ?_))
        have hadr : (⟨b, 0, none⟩ : Addr).add (k + j) = ((⟨b, 0, none⟩ : Addr).add 0).add ((k + j) * 1) := by rw [add_add]; simp
        refine SW.storeB (i := k + j) hB (by rw [hadr]; rfl) rfl rfl (by rw [cellsM_len]; simp; omega) fun w3 hB' hg' => ?_
        rw [cellsM_set _ _ _ hlt, cellsM_congr (q := addM p k ((j + 1 : Nat) : Int)) (fun i _ => by
          by_cases e : i = k + j
          · subst e; simp [addM]; omega
          · simp only [e, if_false, addM]
            congr 1
            by_cases e1 : i < k + j
            · rw [decide_eq_true (show (i : Int) < (k : Int) + (j : Int) by omega), decide_eq_true (show (i : Int) < (k : Int) + ((j + 1 : Nat) : Int) by omega)]
            · rw [decide_eq_false (show ¬ (i : Int) < (k : Int) + (j : Int) by omega), decide_eq_false (show ¬ (i : Int) < (k : Int) + ((j + 1 : Nat) : Int) by omega)])] at hB'
        have hgg := grown_trans hg hg' (.inl rfl)
        clear hw
        have hw := Ext.refl w3
        repeat' (first | (show CW _ _ _ _ _ _; refine CW.region ?_) | (show Post _ _ _ _ _; first | refine Post.seq ?_ | refine Post.blk ?_) | refine SW.nil ?_ | refine SW.pure rfl rfl ?_ | (show SW _ _ _ _ (⟨_, Op.binOp _ _ _ _ _, _, _, _, none⟩ :: _) _ _; refine SW.st (st_add rfl rfl (by omega) (by omega)) rfl ?_))
        refine Post.again (j + 1) ⟨rfl, rfl, rfl, rfl, trivial⟩ (by omega) ⟨by omega, hB', hgg, fun i h1 h2 => ?_⟩
        by_cases e : i = k + j
        · subst e; exact hp
        · exact hI i h1 (by omega)
      · rw [hp] at hc'
        repeat' (first | (show CW _ _ _ _ _ _; first | refine CW.seq ?_ | refine CW.region ?_ | refine CW.block ?_ | refine CW.condtr rfl (by with_reducible rfl) ?_ | refine CW.condd_t rfl (by omega) ?_ | refine CW.skip ?_) | (show Post _ _ _ _ _; refine Post.seq ?_) | refine SW.nil ?_ | refine SW.pure rfl rfl ?_ | (show SW _ _ _ _ (⟨_, Op.fieldAddr _ _ _, _, _, _, none⟩ :: _) _ _; refine SW.st (st_field rfl) rfl ?_) | (show SW _ _ _ _ (⟨_, Op.nilCheck _, _, _, _, none⟩ :: _) _ _; refine SW.st (st_nilCheck rfl) rfl ?_) | (show SW _ _ _ _ (⟨_, Op.binOp _ _ _ _ _, _, _, _, none⟩ :: _) _ _; refine SW.st (st_add rfl rfl (by omega) (by omega)) rfl ?_) | (show SW _ _ _ _ (⟨_, Op.load _ _, _, _, _, none⟩ :: _) _ _; refine SW.st (st_load rfl (hc')) rfl ?_) | (refine SW.st (st_indexArr (k + j) rfl rfl rfl (by omega)) rfl ?_))
        subst hN
        refine SW.storeB (i := 256) hB rfl rfl rfl (by rw [cellsM_len]; rfl) fun w3 hB' hg' => ?_
        rw [cellsM_setBad] at hB'
        clear hw
        have hw := Ext.refl w3
        repeat' (first | (show CW _ _ _ _ _ _; refine CW.ret ?_) | (show Post _ _ _ _ _; first | refine Post.seq ?_ | refine Post.seq_ret ?_ | refine Post.blk_ret ?_ | refine Post.again_ret ?_) | refine SW.nil ?_)
        exact Post.ret0 rfl ⟨_, rfl, _, true, hB', grown_trans hg hg' (.inl rfl), .inr ⟨(fun h => by have := h.2.2.2 (k + j) (by omega) (by omega); rw [hp] at this; cases this), rfl⟩⟩
    · obtain rfl : j = m := by omega
      repeat' (first | (show CW _ _ _ _ _ _; first | refine CW.seq ?_ | refine CW.region ?_ | refine CW.condd_f rfl (by omega) ?_ | refine CW.exit ?_) | (show Post _ _ _ _ _; first | refine Post.seq ?_ | refine Post.seq_exit ?_ | refine Post.hit ?_ | refine Post.again_exit ?_) | refine SW.nil ?_ | refine SW.pure rfl rfl ?_ | (show SW _ _ _ _ (⟨_, Op.binOp _ _ _ _ _, _, _, _, none⟩ :: _) _ _; refine SW.st (st_add rfl rfl (by omega) (by omega)) rfl ?_))
      exact Post.end0 rfl ⟨_, rfl, _, bad, hB, hg, .inl ⟨⟨h1, h2, h3, fun i h4 h5 => hI i (by omega) (by omega)⟩, rfl, rfl⟩⟩
  · have hno : ¬ okM p a n := fun h => hin ⟨h.1, h.2.1, h.2.2.1⟩
    subst hN
    repeat' (first | (show CW _ _ _ _ _ _; first | refine CW.seq ?_ | refine CW.region ?_ | refine CW.condtr rfl (by with_reducible rfl) ?_ | refine CW.condd_t rfl (by omega) ?_) | (show Post _ _ _ _ _; refine Post.seq ?_) | refine SW.nil ?_ | (show SW _ _ _ _ (⟨_, _, _, _, _, some _⟩ :: _) _ _; first | refine SW.want_f rfl rfl (by with_reducible rfl) ?_ | refine SW.skip_f rfl rfl (by with_reducible rfl) rfl ?_ | refine SW.splitd rfl rfl rfl (fun h => ?_) (fun h => ?_)) | refine SW.pure rfl rfl ?_ | (show SW _ _ _ _ (⟨_, Op.fieldAddr _ _ _, _, _, _, none⟩ :: _) _ _; refine SW.st (st_field rfl) rfl ?_) | (show SW _ _ _ _ (⟨_, Op.nilCheck _, _, _, _, none⟩ :: _) _ _; refine SW.st (st_nilCheck rfl) rfl ?_) | (show SW _ _ _ _ (⟨_, Op.binOp _ _ _ _ _, _, _, _, none⟩ :: _) _ _; refine SW.st (st_sub rfl rfl (by omega) (by omega)) rfl ?_))
    all_goals
      first
        | (exfalso; omega)
        | (refine SW.storeB (i := 256) hB rfl rfl rfl (by rw [cellsM_len]; rfl) fun w3 hB' hg' => ?_
           rw [cellsM_setBad] at hB'
           clear hw
           have hw := Ext.refl w3
           repeat' (first | (show CW _ _ _ _ _ _; refine CW.ret ?_) | (show Post _ _ _ _ _; first | refine Post.seq ?_ | refine Post.seq_ret ?_) | refine SW.nil ?_)
           exact Post.ret0 rfl ⟨_, rfl, _, true, hB', hg', .inr ⟨hno, rfl⟩⟩)
end Go.Proofs.YtfommgdbahemfaaDoor
set_option linter.unusedVariables false
namespace Go.Proofs.YtfommgdbahemfaaDoor
def isOT (o t : Int) (b : Block) : Bool := decide (b.Order = o) && decide (b.Ty = t)
theorem isOT_iff {o t : Int} {b : Block} : isOT o t b = true ↔ b.Order = o ∧ b.Ty = t := by simp [isOT]
def oth1 (t : Int) : Int := if t = 2 then 0 else 2
def oth2 (t : Int) : Int := if t = 1 then 0 else 1
def ordN (o : Int) (n : Nat) : Int := if n < 5 then o + n else 4 - (((n - 5) / 2 : Nat) : Int)
def tyN (t : Int) (n : Nat) : Int := if n < 5 then t else if (n - 5) % 2 = 0 then oth1 t else oth2 t
def testN (l : List Block) (o t : Int) (n : Nat) : Bool := decide (o ≤ ordN o n ∧ ordN o n ≤ 4) && l.any (isOT (ordN o n) (tyN t n))
theorem ord_own {o : Int} {j : Nat} (h : j < 5) : ordN o j = o + j := by unfold ordN; rw [if_pos h]
theorem ord_fst {o : Int} {j : Nat} : ordN o (5 + 2 * j) = 4 - (j : Int) := by unfold ordN; rw [if_neg (by omega)]; omega
theorem ord_snd {o : Int} {j : Nat} : ordN o (5 + 2 * j + 1) = 4 - (j : Int) := by unfold ordN; rw [if_neg (by omega)]; omega
theorem ty_own {t : Int} {j : Nat} (h : j < 5) : tyN t j = t := by unfold tyN; rw [if_pos h]
theorem ty_fst {t : Int} {j : Nat} : tyN t (5 + 2 * j) = oth1 t := by unfold tyN; rw [if_neg (by omega), if_pos (by omega)]
theorem ty_snd {t : Int} {j : Nat} : tyN t (5 + 2 * j + 1) = oth2 t := by unfold tyN; rw [if_neg (by omega), if_neg (by omega)]
theorem test_own {l : List Block} {o t : Int} {j : Nat} (h : j < 5) (ho : o + j ≤ 4) : testN l o t j = l.any (isOT (o + j) t) := by
  unfold testN
  rw [ord_own h, ty_own h, decide_eq_true (by omega), Bool.true_and]
theorem test_fst {l : List Block} {o t : Int} {j : Nat} (ho : o ≤ 4 - (j : Int)) : testN l o t (5 + 2 * j) = l.any (isOT (4 - (j : Int)) (oth1 t)) := by
  unfold testN
  rw [ord_fst, ty_fst, decide_eq_true (by omega), Bool.true_and]
theorem test_snd {l : List Block} {o t : Int} {j : Nat} (ho : o ≤ 4 - (j : Int)) : testN l o t (5 + 2 * j + 1) = l.any (isOT (4 - (j : Int)) (oth2 t)) := by
  unfold testN
  rw [ord_snd, ty_snd, decide_eq_true (by omega), Bool.true_and]
theorem test_off {l : List Block} {o t : Int} {n : Nat} (h : ¬ (o ≤ ordN o n ∧ ordN o n ≤ 4)) : testN l o t n = false := by
  unfold testN
  rw [decide_eq_false h, Bool.false_and]
inductive PickR (l : List Block) (o t : Int) : Option (Nat × Bool) → Prop
  | hit {n k : Nat} (hn : n < 15) (ht : testN l o t n = true) (hf : ∀ m, m < n → testN l o t m = false) (hk : k < l.length) (hp : isOT (ordN o n) (tyN t n) l[k] = true) (hg : ∀ (j : Nat) (hj : j < l.length), j < k → isOT (ordN o n) (tyN t n) l[j] = false) : PickR l o t (some (k, decide (5 ≤ n)))
  | miss (hf : ∀ m, m < 15 → testN l o t m = false) : PickR l o t none
theorem PickR.det {l : List Block} {o t : Int} {u v : Option (Nat × Bool)} (a : PickR l o t u) (b : PickR l o t v) : u = v := by
  cases a with
  | @hit n k hn ht hf hk hp hg =>
    cases b with
    | @hit n' k' hn' ht' hf' hk' hp' hg' =>
      rcases Nat.lt_trichotomy n n' with h | h | h
      · rw [hf' n h] at ht; cases ht
      · subst h
        rcases Nat.lt_trichotomy k k' with h | h | h
        · rw [hg' k hk h] at hp; cases hp
        · subst h; rfl
        · rw [hg k' hk' h] at hp'; cases hp'
      · rw [hf n' h] at ht'; cases ht'
    | miss hf' => rw [hf' n hn] at ht; cases ht
  | miss hf =>
    cases b with
    | @hit n' k' hn' ht' hf' hk' hp' hg' => rw [hf n' hn'] at ht'; cases ht'
    | miss => rfl
theorem PickR.ord {l : List Block} {o t : Int} {k : Nat} {s : Bool} (a : PickR l o t (some (k, s))) : ∃ hk : k < l.length, o ≤ l[k].Order ∧ l[k].Order ≤ 4 := by
  cases a with
  | hit hn ht hf hk hp hg =>
    refine ⟨hk, ?_⟩
    unfold testN at ht
    rw [Bool.and_eq_true] at ht
    have h1 := of_decide_eq_true ht.1
    have h2 := (isOT_iff.1 hp).1
    omega
def stB (f to t : Int) (x : Block) : Block := if f ≤ x.At ∧ x.At + pw x.Order ≤ to then ⟨x.At, x.Order, t⟩ else x
def stTo (b : Block) : Int := if b.Order = 4 then b.At + 16 else b.At / 8 * 8 + 8
def stFree (l : List Block) (b : Block) (t : Int) : List Block := if b.Order < 2 then l else l.map (stB (b.At / 8 * 8) (stTo b) t)
def stIdx (z : Zone) (b : Block) : Nat := ((b.At - z.From) / 8).toNat
def stTypes (z : Zone) (b : Block) (t : Int) : List Int := if b.Order < 2 then z.Types else if b.Order = 4 then (z.Types.set (stIdx z b) t).set (stIdx z b + 1) t else z.Types.set (stIdx z b) t
theorem stB_at (f to t : Int) (x : Block) : (stB f to t x).At = x.At ∧ (stB f to t x).Order = x.Order := by
  unfold stB; split <;> exact ⟨rfl, rfl⟩
theorem stFree_len (l : List Block) (b : Block) (t : Int) : (stFree l b t).length = l.length := by unfold stFree; split <;> simp
theorem stFree_ups {l : List Block} {b : Block} {t : Int} (h : ups l) : ups (stFree l b t) := by
  unfold stFree
  split
  · exact h
  · unfold ups at *
    rw [List.pairwise_map]
    refine h.imp fun {x y} hxy => ?_
    rw [(stB_at _ _ _ x).1, (stB_at _ _ _ x).2, (stB_at _ _ _ y).1]
    exact hxy
theorem stFree_blk {f u : Int} {l : List Block} {b : Block} {t : Int} (h : ∀ x ∈ l, blkOk f u x) (ht : tyOk t) : ∀ x ∈ stFree l b t, blkOk f u x := by
  unfold stFree
  split
  · exact h
  · intro x hx
    obtain ⟨y, hy, rfl⟩ := List.mem_map.1 hx
    have hk := h y hy
    unfold blkOk at *
    rw [(stB_at _ _ _ y).1, (stB_at _ _ _ y).2]
    refine ⟨hk.1, ?_⟩
    unfold stB
    split
    · exact ht
    · exact hk.2
def halfB (ty a q : Int) : Block := ⟨a + pw (q - 1), q - 1, ty⟩
def halfL (ty a q : Int) (l : List Block) : List Block := insAt l (lbOf l (a + pw (q - 1))) (halfB ty a q)
def splitL (ty a : Int) : Nat → Int → List Block → List Block
  | 0, _, l => l
  | f + 1, q, l => splitL ty a f (q - 1) (halfL ty a q l)
def tySt (z : Zone) (t : Int) (st : Bool) (b : Block) : Int := if st = true ∧ 2 ≤ b.Order then t else b.Ty
def takenZ (z : Zone) (o t : Int) (b : Block) (k : Nat) (st : Bool) : Zone :=
  ⟨z.From, z.To, splitL (tySt z t st b) b.At (b.Order - o).toNat b.Order ((if st = true then stFree z.Free b t else z.Free).eraseIdx k), if st = true then stTypes z b t else z.Types⟩
inductive TakeR (z : Zone) (o t : Int) : Zone × Int × Int → Prop
  | bad (h : zoneB z = false) : TakeR z o t (.zero, 0, 8)
  | range (h : zoneB z = true) (ho : ¬ (0 ≤ o ∧ o ≤ 4)) : TakeR z o t (.zero, 0, 1)
  | kind (h : zoneB z = true) (ho : 0 ≤ o ∧ o ≤ 4) (ht : ¬ tyOk t) : TakeR z o t (.zero, 0, 2)
  | room (h : zoneB z = true) (ho : 0 ≤ o ∧ o ≤ 4) (ht : tyOk t) (hp : PickR z.Free o t none) : TakeR z o t (.zero, 0, 6)
  | ok {k : Nat} {st : Bool} (h : zoneB z = true) (ho : 0 ≤ o ∧ o ≤ 4) (ht : tyOk t) (hk : k < z.Free.length) (hp : PickR z.Free o t (some (k, st))) : TakeR z o t (takenZ z o t z.Free[k] k st, z.Free[k].At, 0)
theorem TakeR.det {z : Zone} {o t : Int} {u v : Zone × Int × Int} (a : TakeR z o t u) (b : TakeR z o t v) : u = v := by
  cases a with
  | bad h => cases b with
    | bad => rfl
    | range h' | kind h' | room h' | ok h' => rw [h] at h'; cases h'
  | range h ho => cases b with
    | bad h' => rw [h] at h'; cases h'
    | range => rfl
    | kind _ ho' | room _ ho' | ok _ ho' => exact absurd ho' ho
  | kind h ho ht => cases b with
    | bad h' => rw [h] at h'; cases h'
    | range _ ho' => exact absurd ho ho'
    | kind => rfl
    | room _ _ ht' | ok _ _ ht' => exact absurd ht' ht
  | room h ho ht hp => cases b with
    | bad h' => rw [h] at h'; cases h'
    | range _ ho' => exact absurd ho ho'
    | kind _ _ ht' => exact absurd ht ht'
    | room => rfl
    | ok _ _ _ _ hp' => cases hp.det hp'
  | ok h ho ht hk hp => cases b with
    | bad h' => rw [h] at h'; cases h'
    | range _ ho' => exact absurd ho ho'
    | kind _ _ ht' => exact absurd ht ht'
    | room _ _ _ hp' => cases hp.det hp'
    | ok _ _ _ _ hp' => cases hp.det hp'; rfl
theorem mem_insAt_iff {α : Type} {l : List α} {i : Nat} {x y : α} : y ∈ insAt l i x ↔ y = x ∨ y ∈ l := by
  have e : l = l.take i ++ l.drop i := (List.take_append_drop i l).symm
  unfold insAt
  constructor
  · intro h
    simp only [List.mem_append, List.mem_singleton] at h
    rcases h with (h | h) | h
    · exact .inr (List.mem_of_mem_take h)
    · exact .inl h
    · exact .inr (List.mem_of_mem_drop h)
  · intro h
    simp only [List.mem_append, List.mem_singleton]
    rcases h with h | h
    · exact .inl (.inr h)
    · rw [e, List.mem_append] at h
      rcases h with h | h
      · exact .inl (.inl h)
      · exact .inr h
theorem ups_insAt {f t : Int} {l : List Block} {y : Block} (hu : ups l) (hb : ∀ b ∈ l, blkOk f t b) (hy : 0 ≤ y.Order ∧ y.Order ≤ 4) (hd : ∀ b ∈ l, b.At + pw b.Order ≤ y.At ∨ y.At + pw y.Order ≤ b.At) : ups (insAt l (lbOf l y.At) y) := by
  have e : l = l.take (lbOf l y.At) ++ l.drop (lbOf l y.At) := (List.take_append_drop _ l).symm
  have h0 := hu
  unfold ups at h0
  rw [e, List.pairwise_append] at h0
  obtain ⟨h1, h2, h3⟩ := h0
  have hA : ∀ x ∈ l.take (lbOf l y.At), x.At + pw x.Order ≤ y.At := fun x hx => by
    obtain ⟨j, hj, rfl⟩ := List.getElem_of_mem hx
    simp only [List.length_take] at hj
    rw [List.getElem_take]
    have hlt := lb_below (l := l) (a := y.At) (k := j) (by omega)
    have hp := pw_le hy.1 hy.2
    rcases hd _ (List.getElem_mem (show j < l.length by omega)) with h | h <;> omega
  have hB : ∀ x ∈ l.drop (lbOf l y.At), y.At + pw y.Order ≤ x.At := fun x hx => by
    obtain ⟨j, hj, rfl⟩ := List.getElem_of_mem hx
    simp only [List.length_drop] at hj
    rw [List.getElem_drop]
    have hge := lb_at (l := l) (a := y.At) (by omega)
    have hle : (l[lbOf l y.At]'(by omega)).At ≤ (l[lbOf l y.At + j]'(by omega)).At := by
      rcases Nat.eq_zero_or_pos j with rfl | hj0
      · exact Int.le_refl _
      · have := ups_get hu (show lbOf l y.At + j < l.length by omega) (show lbOf l y.At < lbOf l y.At + j by omega)
        have := pw_le (hb _ (List.getElem_mem (show lbOf l y.At < l.length by omega))).1.1 (hb _ (List.getElem_mem (show lbOf l y.At < l.length by omega))).1.2.1
        omega
    have hm := List.getElem_mem (show lbOf l y.At + j < l.length by omega)
    have := pw_le (hb _ hm).1.1 (hb _ hm).1.2.1
    rcases hd _ hm with h | h <;> omega
  unfold insAt ups
  rw [List.append_assoc, List.pairwise_append]
  refine ⟨h1, ?_, fun a ha b hb' => ?_⟩
  · rw [List.singleton_append, List.pairwise_cons]
    exact ⟨hB, h2⟩
  · rw [List.singleton_append, List.mem_cons] at hb'
    rcases hb' with rfl | hb'
    · exact hA a ha
    · exact h3 a ha b hb'
theorem jok_half {f t : Int} {l : List Block} {a q ty : Int} (h : JOk f t l a q) (h0 : 0 ≤ f) (ht : t ≤ 256) (ht16 : t % 16 = 0) (hq : 1 ≤ q) (hty : tyOk ty) : JOk f t (halfL ty a q l) a (q - 1) ∧ (∀ b ∈ l, b.At ≠ a + pw (q - 1)) := by
  obtain ⟨f1, f2, f3, f4, f5⟩ := h.fit
  have hp : pw q = 2 * pw (q - 1) := by
    have := pw_succ (o := q - 1) (by omega) (by omega)
    rwa [Int.sub_add_cancel] at this
  have hm : a % pw (q - 1) = 0 ∧ (a + pw (q - 1)) % pw (q - 1) = 0 ∧ 1 ≤ pw (q - 1) ∧ a + pw (q - 1) < t := by
    rcases pw_cases f1 f2 with ⟨e1, e2⟩ | ⟨e1, e2⟩ | ⟨e1, e2⟩ | ⟨e1, e2⟩ | ⟨e1, e2⟩
    all_goals
      rw [e2] at f5 hp
      first
        | omega
        | (have e3 : pw (q - 1) = 1 := by omega
           rw [e3]; omega)
        | (have e3 : pw (q - 1) = 2 := by omega
           rw [e3]; omega)
        | (have e3 : pw (q - 1) = 4 := by omega
           rw [e3]; omega)
        | (have e3 : pw (q - 1) = 8 := by omega
           rw [e3]; omega)
  obtain ⟨m1, m2, m3, m4⟩ := hm
  have hd : ∀ b ∈ l, b.At + pw b.Order ≤ a + pw (q - 1) ∨ a + pw (q - 1) + pw (q - 1) ≤ b.At := fun b hb => by
    rcases h.dis b hb with g | g <;> omega
  have hne : ∀ b ∈ l, b.At ≠ a + pw (q - 1) := fun b hb e => by
    have := pw_le (h.blk b hb).1.1 (h.blk b hb).1.2.1
    rcases h.dis b hb with g | g <;> omega
  refine ⟨⟨?_, fun b hb => ?_, ⟨by omega, by omega, f3, f4, m1⟩, fun b hb => ?_⟩, hne⟩
  · exact ups_insAt (y := halfB ty a q) h.ups h.blk ⟨by simp only [halfB]; omega, by simp only [halfB]; omega⟩ hd
  · rcases mem_insAt_iff.1 hb with rfl | hb
    · exact ⟨⟨by simp only [halfB]; omega, by simp only [halfB]; omega, by simp only [halfB]; omega, m4, m2⟩, hty⟩
    · exact h.blk b hb
  · rcases mem_insAt_iff.1 hb with rfl | hb
    · right; simp only [halfB]; omega
    · rcases h.dis b hb with g | g <;> omega
theorem halfL_len (ty a q : Int) (l : List Block) : (halfL ty a q l).length = l.length + 1 := by
  have := lb_le l (a + pw (q - 1))
  unfold halfL insAt
  simp
  omega
theorem jok_erase {f t : Int} {l : List Block} (hu : ups l) (hb : ∀ b ∈ l, blkOk f t b) {k : Nat} (hk : k < l.length) : JOk f t (l.eraseIdx k) l[k].At l[k].Order := by
  have hs : ∀ b ∈ l.eraseIdx k, b ∈ l := fun b h => List.mem_of_mem_eraseIdx h
  refine ⟨?_, fun b h => hb b (hs b h), (hb _ (List.getElem_mem hk)).1, fun b h => ?_⟩
  · unfold ups at *
    exact hu.sublist (List.eraseIdx_sublist l k)
  · obtain ⟨j, hj, rfl⟩ := List.getElem_of_mem h
    have hlen := List.length_eraseIdx_of_lt hk
    rw [List.getElem_eraseIdx]
    split
    · rename_i hjk
      exact .inl (ups_get hu hk hjk)
    · rename_i hjk
      exact .inr (ups_get hu (by omega) (by omega))
theorem test_low {l : List Block} {o t : Int} {j m : Nat} (hm : 5 + 2 * j ≤ m) (ho : 4 - (j : Int) < o) : testN l o t m = false :=
  test_off (by unfold ordN; rw [if_neg (by omega)]; omega)
theorem stTo_in {b : Block} (h2 : 2 ≤ b.Order) (h4 : b.Order ≤ 4) (hm : b.At % pw b.Order = 0) : b.At / 8 * 8 ≤ b.At ∧ b.At + pw b.Order ≤ stTo b := by
  unfold stTo
  rcases pw_cases (show 0 ≤ b.Order by omega) h4 with ⟨e1, e2⟩ | ⟨e1, e2⟩ | ⟨e1, e2⟩ | ⟨e1, e2⟩ | ⟨e1, e2⟩ <;> rw [e2] at hm ⊢ <;> split <;> omega
def takeF (z : Zone) (b : Block) (t : Int) (st : Bool) : List Block := if st = true then stFree z.Free b t else z.Free
theorem takeF_ok {z : Zone} (hz : ZoneMay z) {b : Block} {t : Int} (ht : tyOk t) (st : Bool) : (takeF z b t st).length = z.Free.length ∧ ups (takeF z b t st) ∧ ∀ x ∈ takeF z b t st, blkOk z.From z.To x := by
  have hb : ∀ x ∈ z.Free, blkOk z.From z.To x := fun x hx => by
    obtain ⟨i, hi, rfl⟩ := List.getElem_of_mem hx
    exact hz.blk i hi
  unfold takeF
  split
  · exact ⟨stFree_len _ _ _, stFree_ups (zone_ups hz), stFree_blk hb ht⟩
  · exact ⟨rfl, zone_ups hz, hb⟩
theorem takeF_get {z : Zone} (hz : ZoneMay z) {t : Int} (ht : tyOk t) (st : Bool) {k : Nat} (hk : k < z.Free.length) :
    (takeF z z.Free[k] t st)[k]'(by rw [(takeF_ok hz ht st).1]; exact hk) = ⟨z.Free[k].At, z.Free[k].Order, tySt z t st z.Free[k]⟩ := by
  obtain ⟨f1, f2, f3, f4, f5⟩ := (hz.blk k hk).1
  unfold takeF tySt
  cases st
  · simp
  · simp only [if_true, true_and]
    unfold stFree
    by_cases h2 : z.Free[k].Order < 2
    · simp only [if_pos h2, if_neg (show ¬ 2 ≤ z.Free[k].Order by omega)]
    · simp only [if_neg h2, if_pos (show 2 ≤ z.Free[k].Order by omega), List.getElem_map]
      unfold stB
      rw [if_pos (stTo_in (by omega) f2 f5)]
end Go.Proofs.YtfommgdbahemfaaDoor
set_option linter.unusedVariables false
set_option linter.unusedSimpArgs false
namespace Go.Proofs.YtfommgdbahemfaaDoor
open Go.RowKit
section
variable {P : Program} {L : Env} {w : World} {d : Option Nat} {T : TypeId} {pos : String} {af : Array Edge} {g : Option (Nat × Bool)}
theorem st_idxA {t e : TypeId} {len : Nat} [c : ArrTy P t len e 1] [OneTy P e] {x y : Operand} {vs : List Value} {i : Int} {v : Value} (k : Nat) (hx : opv L x = some (.agg vs.toArray)) (hy : opv L y = some (.int .i64 i)) (hi : i = (k : Int)) (hk : k < len) (hv : vs[k]? = some v) :
  St P ⟨d, .index t x y, T, pos, af, g⟩ L w v :=
 ⟨fun _ a ha w' _ => by
  subst hi
  have e1 := ha.eval hx
  have e2 := ha.eval hy
  generalize a.eval = ρ at *
  simp [execOp, e1, e2, Instr.index, asIntOf, run_underlying c.und, run_sizeOf c.size, hk, part, run_isAgg_one, hv]⟩
end
theorem lowF_ans (o t : Int) (b4 b5 : Nat) (x : Block) (w : World) (h4 : Blk w b4 3 [.int .i64 o]) (h5 : Blk w b5 3 [.int .i64 t]) :
  Ans Tryd.prog 59 ([.agg (encBk x).toArray] ++ [.pointer (some ⟨b4, 0, none⟩), .pointer (some ⟨b5, 0, none⟩)]) w fun v _ => v = .bool (isOT o t x) := by
 refine ans_of Tryd.func59 rfl Tryd.ntmps59 rfl ?_
 refine CW.seq (CW.region (SW.box rfl rfl fun b1 w1 hw hb1b hb1 => ?_))
 replace h4 := h4.ext hw
 replace h5 := h5.ext hw
 have h4c := h4.cell (i := 0) (v := .int .i64 o) rfl
 have h5c := h5.cell (i := 0) (v := .int .i64 t) rfl
 rw [add_zero] at h4c h5c
 by_cases h1 : x.Order = o
 ·repeat' (first | (show CW _ _ _ _ _ _; first | refine CW.seq ?_ | refine CW.region ?_ | refine CW.ret ?_) | (show Post _ _ _ _ _; refine Post.seq ?_) | refine SW.nil ?_ | (show SW _ _ _ _ (⟨_, _, _, _, _, some _⟩ :: _) _ _; first | refine SW.want_t rfl rfl (by with_reducible rfl) ?_ | refine SW.splitd_t rfl rfl rfl (by omega) ?_) | refine SW.pure rfl rfl ?_ | (show SW _ _ _ _ (⟨_, Op.fieldAddr _ _ _, _, _, _, none⟩ :: _) _ _; refine SW.st (st_field rfl) rfl ?_) | (show SW _ _ _ _ (⟨_, Op.load _ _, _, _, _, none⟩ :: _) _ _; first | refine SW.st (st_load rfl (hb1.cell rfl)) rfl ?_ | refine SW.st (st_load rfl h4c) rfl ?_ | refine SW.st (st_load rfl h5c) rfl ?_))
  exact Post.ret1 rfl rfl ⟨_, rfl, hw, by simp [isOT, h1]⟩
 ·repeat' (first | (show CW _ _ _ _ _ _; first | refine CW.seq ?_ | refine CW.region ?_ | refine CW.ret ?_) | (show Post _ _ _ _ _; refine Post.seq ?_) | refine SW.nil ?_ | (show SW _ _ _ _ (⟨_, _, _, _, _, some _⟩ :: _) _ _; first | refine SW.skip_t rfl rfl (by with_reducible rfl) rfl ?_ | refine SW.splitd_f rfl rfl rfl (by omega) ?_) | refine SW.pure rfl rfl ?_ | (show SW _ _ _ _ (⟨_, Op.fieldAddr _ _ _, _, _, _, none⟩ :: _) _ _; refine SW.st (st_field rfl) rfl ?_) | (show SW _ _ _ _ (⟨_, Op.load _ _, _, _, _, none⟩ :: _) _ _; first | refine SW.st (st_load rfl (hb1.cell rfl)) rfl ?_ | refine SW.st (st_load rfl h4c) rfl ?_))
  exact Post.ret1 rfl rfl ⟨_, rfl, hw, by simp [isOT, h1]⟩
theorem lowest_ans (r : ZRow) (l : List Block) (o t : Int) (w : World) (hl : Sl w 3 encBk r.Free.A r.Free.n l) (hn : r.Free.n ≤ 9223372036854775807) :
  Ans Tryd.prog 20 [.agg (encZ r).toArray, .int .i64 o, .int .i64 t] w fun v _ => v = .int .i64 (idxOf (isOT o t) l) := by
 refine ans_of Tryd.func20 rfl Tryd.ntmps20 rfl ?_
 refine CW.seq (CW.region (SW.box rfl rfl fun b3 w1 hw hb3b hb3 => ?_))
 refine SW.box1 rfl rfl rfl fun b4 w2 hw2 hb4b hb4 => ?_
 (replace hw := Ext.trans hw hw2; replace hb3 := hb3.ext hw2)
 refine SW.box1 rfl rfl rfl fun b5 w3 hw3 hb5b hb5 => ?_
 (replace hw := Ext.trans hw hw3; replace hb3 := hb3.ext hw3; replace hb4 := hb4.ext hw3)
 repeat' (first | (show CW _ _ _ _ _ _; first | refine CW.seq ?_ | refine CW.region ?_) | (show Post _ _ _ _ _; refine Post.seq ?_) | refine SW.nil ?_ | refine SW.pure rfl rfl ?_ | (show SW _ _ _ _ (⟨_, Op.fieldAddr _ _ _, _, _, _, none⟩ :: _) _ _; refine SW.st (st_field rfl) rfl ?_) | (show SW _ _ _ _ (⟨_, Op.load _ _, _, _, _, none⟩ :: _) _ _; refine SW.st (st_load rfl (hb3.cell rfl)) rfl ?_) | (refine SW.st (st_func (vs := [.pointer (some ⟨b4, 0, none⟩), .pointer (some ⟨b5, 0, none⟩)]) rfl) rfl ?_))
 refine SW.call rfl rfl (IndexFuncBlock_ans _ _ _ _ _ (hl.ext hw) _ [.pointer (some ⟨b4, 0, none⟩), .pointer (some ⟨b5, 0, none⟩)] (isOT o t) (fun x => .agg (encBk x).toArray) (fun x => rfl) (fun x hx w1 hx1 => lowF_ans o t b4 b5 x w1 (hb4.ext hx1) (hb5.ext hx1)) hn) fun v w4 hw4 hv => ?_
 subst hv
 replace hw := Ext.trans hw hw4
 repeat' (first | (show CW _ _ _ _ _ _; refine CW.ret ?_) | (show Post _ _ _ _ _; refine Post.seq ?_) | refine SW.nil ?_ | refine SW.pure rfl rfl ?_)
 exact Post.ret1 rfl rfl ⟨_, rfl, hw, rfl⟩
structure KeepT (T : TypeId) (w w' : World) : Prop where
 out : ∀ b cs, Blk w b T cs → Blk w' b T cs
theorem KeepT.refl (T : TypeId) (w : World) : KeepT T w w := ⟨fun _ _ h => h⟩
theorem KeepT.ext {T : TypeId} {w w1 w2 : World} (h : KeepT T w w1) (hx : Ext w1 w2) : KeepT T w w2 := ⟨fun b cs hb => (h.out b cs hb).ext hx⟩
theorem KeepT.grT {T t : TypeId} {w w1 w2 : World} (h : KeepT T w w1) (hG : GrT w1 w2 t) (hne : Nat.beq t T = false) : KeepT T w w2 := ⟨fun b cs hb => (h.out b cs hb).grT hG hne⟩
def tyAt (T : List Int) (i : Nat) (t : Int) (c : Nat) : List Int := if c = 0 then T else if c ≤ 8 then T.set i t else (T.set i t).set (i + 1) t
theorem tyAt_step {T : List Int} {i : Nat} {t : Int} {c : Nat} (hc : c < 16) : (tyAt T i t c).set (i + c / 8) t = tyAt T i t (c + 1) := by
 unfold tyAt
 rcases (show c = 0 ∨ (1 ≤ c ∧ c < 8) ∨ c = 8 ∨ (8 < c ∧ c < 16) by omega) with rfl | h | rfl | h
 ·simp
 ·have e : c / 8 = 0 := by omega
  rw [if_neg (by omega), if_pos (by omega), if_neg (by omega), if_pos (by omega), e, Nat.add_zero, List.set_set]
 ·simp
 ·have e : c / 8 = 1 := by omega
  rw [if_neg (by omega), if_neg (by omega), if_neg (by omega), if_neg (by omega), e, List.set_set]
def mapTo {α : Type} (f : α → α) (l : List α) (j : Nat) : List α := (l.take j).map f ++ l.drop j
theorem mapTo_len {α : Type} {f : α → α} {l : List α} {j : Nat} : (mapTo f l j).length = l.length := by simp [mapTo]; omega
theorem mapTo_get {α : Type} {f : α → α} {l : List α} {j : Nat} (hj : j < l.length) : (mapTo f l j)[j]'(by rw [mapTo_len]; exact hj) = l[j] := by
 have e : (mapTo f l j)[j]? = l[j]? := by
  unfold mapTo
  rw [List.getElem?_append_right (by simp; omega)]
  have : j - ((l.take j).map f).length = 0 := by simp; omega
  rw [this, List.getElem?_drop]
  simp
 rw [List.getElem?_eq_getElem (by rw [mapTo_len]; exact hj), List.getElem?_eq_getElem hj] at e
 exact Option.some.inj e
theorem mapTo_set {α : Type} {f : α → α} {l : List α} {j : Nat} (hj : j < l.length) : (mapTo f l j).set j (f l[j]) = mapTo f l (j + 1) := by
 unfold mapTo
 rw [List.set_append_right _ _ (by simp; omega)]
 have : j - ((l.take j).map f).length = 0 := by simp; omega
 rw [this, List.take_succ_eq_append_getElem hj, List.map_append, List.drop_eq_getElem_cons hj, List.set_cons_zero]
 simp
theorem mapTo_skip {α : Type} {f : α → α} {l : List α} {j : Nat} (hj : j < l.length) (hf : f l[j] = l[j]) : mapTo f l (j + 1) = mapTo f l j := by
 rw [← mapTo_set hj, hf]
 have := mapTo_get (f := f) hj
 rw [← this]
 exact List.set_getElem_self (by rw [mapTo_len]; exact hj)
theorem mapTo_zero {α : Type} {f : α → α} {l : List α} : mapTo f l 0 = l := by simp [mapTo]
theorem mapTo_all {α : Type} {f : α → α} {l : List α} : mapTo f l l.length = l.map f := by simp [mapTo]
theorem group_of {f a o : Int} (hf : f % 16 = 0) (hfa : f ≤ a) (h2 : 2 ≤ o) (h4 : o ≤ 4) (hm : a % pw o = 0) {c : Nat} (hc : (c : Int) < pw o) : (a + c - f) / 8 = ((((a - f) / 8).toNat + c / 8 : Nat) : Int) := by
 rcases pw_cases (show 0 ≤ o by omega) h4 with ⟨e1, e2⟩ | ⟨e1, e2⟩ | ⟨e1, e2⟩ | ⟨e1, e2⟩ | ⟨e1, e2⟩ <;> rw [e2] at hm hc <;> omega
theorem stTo_max {b : Block} (h2 : 2 ≤ b.Order) (h4 : b.Order ≤ 4) (hm : b.At % pw b.Order = 0) : max (b.At + pw b.Order) (b.At / 8 * 8 + 8) = stTo b := by
 unfold stTo
 rcases pw_cases (show 0 ≤ b.Order by omega) h4 with ⟨e1, e2⟩ | ⟨e1, e2⟩ | ⟨e1, e2⟩ | ⟨e1, e2⟩ | ⟨e1, e2⟩ <;> rw [e2] at hm ⊢ <;> split <;> omega
structure StealRes (base w : World) (r : ZRow) (z : Zone) (b : Block) (t : Int) (w' : World) : Prop where
 ext : Ext base w'
 keep : KeepT 25 w w'
 free : Own w' base.heap.size 55 3 encBk r.Free.A r.Free.n r.Free.c (stFree z.Free b t)
 types : Own w' base.heap.size 3 1 encI r.Types.A r.Types.n r.Types.c (stTypes z b t)
set_option maxHeartbeats 2000000 in
theorem steal_ans (r : ZRow) (z : Zone) (k : Nat) (t : Int) (base w : World) (hB : Ext base w) (hX : Own w base.heap.size 55 3 encBk r.Free.A r.Free.n r.Free.c z.Free) (hT : Own w base.heap.size 3 1 encI r.Types.A r.Types.n r.Types.c z.Types)
  (eF : r.From = z.From) (hz : ZoneMay z) (hk : k < z.Free.length) (hn : r.Free.n ≤ 1000000000000000000) :
  AnsX Tryd.prog 21 [.agg (encZ r).toArray, .int .i64 (k : Int), .int .i64 t] w fun _ w' => StealRes base w r z z.Free[k] t w' := by
 refine ansx_of Tryd.func21 rfl Tryd.ntmps21 rfl ?_
 obtain ⟨f1, f2, f3, f4, f5⟩ := (hz.blk k hk).1
 obtain ⟨o1, o2, o3, o4, o5⟩ := hz.ok
 have hlen := hz.len
 have hFl := hX.len
 have hTl := hT.len
 have hA := hX.sl.base
 have hAT := hT.sl.base
 have hkn : k < r.Free.n := by omega
 refine CW.seq (CW.region (SW.box rfl rfl fun b3 w1 hw1 hb3b hb3 => ?_))
 have hw := Ext.trans hB hw1
 have hK : KeepT 25 w w1 := (KeepT.refl _ w).ext hw1
 replace hX := hX.ext hw1
 replace hT := hT.ext hw1
 have hb3w : base.heap.size ≤ b3 := Nat.le_trans hB.size hb3b
 clear hw1 hb3b
 obtain ⟨x, hx⟩ : ∃ x, z.Free[k] = x := ⟨_, rfl⟩
 rw [hx] at f1 f2 f3 f4 f5 ⊢
 have hg := hX.sl.all hkn
 simp only [hx] at hg
 repeat' (first | (show CW _ _ _ _ _ _; first | refine CW.seq ?_ | refine CW.region ?_) | (show Post _ _ _ _ _; refine Post.seq ?_) | refine SW.nil ?_ | refine SW.pure rfl rfl ?_ | (show SW _ _ _ _ (⟨_, Op.fieldAddr _ _ _, _, _, _, none⟩ :: _) _ _; refine SW.st (st_field rfl) rfl ?_) | (show SW _ _ _ _ (⟨_, Op.indexAddr _ _ _, _, _, _, none⟩ :: _) _ _; refine SW.st (st_indexN rfl rfl (by assumption) (by omega)) rfl ?_) | (show SW _ _ _ _ (⟨_, Op.load _ _, _, _, _, none⟩ :: _) _ _; first | refine SW.st (st_load rfl (hb3.cell (i := 2) (v := .slice r.Free.A r.Free.n r.Free.c) rfl)) rfl ?_ | refine SW.st (st_loads rfl rfl hg) rfl ?_))
 refine SW.alloc rfl fun b6 w1 hw1 h6b hb6 => ?_
 have h6w : base.heap.size ≤ b6 := Nat.le_trans hw.size h6b
 have hne6 : ownB r.Free.A r.Free.c ≠ some b6 := fun e => by have := hX.lt_size _ e; omega
 replace hw := Ext.trans hw hw1
 replace hb3 := hb3.ext hw1
 replace hX := hX.ext hw1
 replace hT := hT.ext hw1
 replace hK := hK.ext hw1
 skip
 refine SW.storeAgg hb6 rfl rfl rfl rfl (Enc.one (enc := encBk) x) fun w2 hb6' hg => ?_
 have hG := hb6.gr hg
 replace hw := hw.own h6w hg
 replace hX := hX.grown hg (.inr hne6)
 (replace hb3 := hb3.grT hG rfl; replace hT := hT.grT hG rfl; replace hK := hK.grT hG rfl)
 replace hb6 := hb6'
 clear hb6' hg hG hw1 h6b
 by_cases h2 : x.Order < 2
 ·repeat' (first | (show CW _ _ _ _ _ _; first | refine CW.seq ?_ | refine CW.region ?_ | refine CW.condd_t rfl (by omega) ?_ | refine CW.ret ?_) | (show Post _ _ _ _ _; first | refine Post.seq ?_ | refine Post.seq_ret ?_) | refine SW.nil ?_ | refine SW.pure rfl rfl ?_ | (show SW _ _ _ _ (⟨_, Op.fieldAddr _ _ _, _, _, _, none⟩ :: _) _ _; refine SW.st (st_field rfl) rfl ?_) | (show SW _ _ _ _ (⟨_, Op.load _ _, _, _, _, none⟩ :: _) _ _; refine SW.st (st_load rfl (hb6.cell (i := 1) (v := .int .i64 x.Order) rfl)) rfl ?_))
  exact Post.ret0 rfl ⟨_, rfl, hw, hK, by rw [stFree, if_pos h2]; exact hX, by rw [stTypes, if_pos h2]; exact hT⟩
 ·repeat' (first | (show CW _ _ _ _ _ _; first | refine CW.seq ?_ | refine CW.region ?_ | refine CW.block ?_ | refine CW.condd_f rfl (by omega) ?_ | refine CW.skip ?_) | (show Post _ _ _ _ _; refine Post.seq ?_) | refine SW.nil ?_ | refine SW.pure rfl rfl ?_ | (show SW _ _ _ _ (⟨_, Op.fieldAddr _ _ _, _, _, _, none⟩ :: _) _ _; refine SW.st (st_field rfl) rfl ?_) | (show SW _ _ _ _ (⟨_, Op.load _ _, _, _, _, none⟩ :: _) _ _; first | refine SW.st (st_load rfl (hb6.cell (i := 1) (v := .int .i64 x.Order) rfl)) rfl ?_ | refine SW.st (st_load rfl (hb6.cell (i := 0) (v := .int .i64 x.At) rfl)) rfl ?_))
  have hp := pw_le f1 f2
  have hgr : ∀ c : Nat, (c : Int) < pw x.Order → (x.At + c - z.From) / 8 = ((stIdx z x + c / 8 : Nat) : Int) := fun c hc => group_of o4 f3 (by omega) f2 f5 hc
  have cE : ∀ w', Ans Tryd.prog 23 [.agg (encBk x).toArray] w' fun v _ => v = .int .i64 (x.At + pw x.Order) := fun w' => Zend_ans x w' ⟨f1, f2⟩ ⟨by omega, by omega⟩
  refine CW.loop (fun c : Nat => [(2, .int .i64 t), (3, .pointer (some ⟨b3, 0, none⟩)), (6, .pointer (some ⟨b6, 0, none⟩)), (7, .int .i64 (x.At + (c : Int)))])
   (fun c w' => (c : Int) ≤ pw x.Order ∧ Ext base w' ∧ KeepT 25 w w' ∧ Blk w' b3 25 (encZ r) ∧ Blk w' b6 55 (encBk x) ∧ Own w' base.heap.size 55 3 encBk r.Free.A r.Free.n r.Free.c z.Free ∧ Own w' base.heap.size 3 1 encI r.Types.A r.Types.n r.Types.c (tyAt z.Types (stIdx z x) t c))
   (fun c => (pw x.Order).toNat - c) 0 ⟨rfl, rfl, rfl, congrArg (fun z => some (Value.int .i64 z)) (by omega), trivial⟩ ⟨by omega, hw, hK, hb3, hb6, hX, hT⟩ ?_
  clear hw hK hb3 hb6 hX hT
  rintro c w' ⟨hc, hw, hK, hb3, hb6, hX, hT⟩
  by_cases hcp : (c : Int) < pw x.Order
  ·have hgc := hgr c hcp
   have hin : stIdx z x + c / 8 < r.Types.n := by
    have : x.At + c < z.To := by
     rcases pw_cases f1 f2 with ⟨e1, e2⟩ | ⟨e1, e2⟩ | ⟨e1, e2⟩ | ⟨e1, e2⟩ | ⟨e1, e2⟩ <;> rw [e2] at f5 hcp <;> omega
    omega
   have hc16 : c < 16 := by omega
   repeat' (first | (show CW _ _ _ _ _ _; first | refine CW.seq ?_ | refine CW.region ?_ | refine CW.block ?_ | refine CW.condd_t rfl (by omega) ?_ | refine CW.skip ?_) | (show Post _ _ _ _ _; refine Post.seq ?_) | refine SW.nil ?_ | refine SW.pure rfl rfl ?_ | (show SW _ _ _ _ (⟨_, Op.fieldAddr _ _ _, _, _, _, none⟩ :: _) _ _; refine SW.st (st_field rfl) rfl ?_) | (show SW _ _ _ _ (⟨_, Op.binOp _ _ _ _ _, _, _, _, none⟩ :: _) _ _; first | refine SW.st (st_sub rfl rfl (by omega) (by omega)) rfl ?_ | refine SW.st (st_quo rfl rfl (by omega) (by omega) (by omega)) rfl ?_) | (show SW _ _ _ _ (⟨_, Op.indexAddr _ _ _, _, _, _, none⟩ :: _) _ _; refine SW.st (st_indexI (stIdx z x + c / 8) rfl rfl (by assumption) (by omega) (by omega)) rfl ?_) | (show SW _ _ _ _ (⟨_, Op.load _ _, _, _, _, none⟩ :: _) _ _; first | refine SW.st (st_loads rfl rfl ((fun _ _ => hb6.cell))) rfl ?_ | refine SW.st (st_load rfl (hb3.cell (i := 3) (v := .slice r.Types.A r.Types.n r.Types.c) rfl)) rfl ?_ | refine SW.st (st_load rfl (hb3.cell (i := 0) (v := .int .i64 r.From) rfl)) rfl ?_) | (show SW _ _ _ _ (⟨_, Op.call ⟨.value (.func _), _, _⟩, _, _, _, none⟩ :: _) _ _; (refine SW.call rfl rfl (cE _) ?_; intro v w1 hw1 hv; subst hv; replace hw := Ext.trans hw hw1; replace hb3 := hb3.ext hw1; replace hb6 := hb6.ext hw1; replace hX := hX.ext hw1; replace hT := hT.ext hw1; replace hK := hK.ext hw1; clear hw1)))
   refine SW.storeI (stIdx z x + c / 8) hT rfl rfl hin fun w5 hT' hg => ?_
   have hG := hT.gr hg
   replace hw := ext_grown hw hg (Nat.le_refl _) hT.row_ge
   (replace hb3 := hb3.grT hG rfl; replace hb6 := hb6.grT hG rfl; replace hX := hX.grT hG rfl; replace hK := hK.grT hG rfl)
   rw [tyAt_step hc16] at hT'
   repeat' (first | (show CW _ _ _ _ _ _; refine CW.region ?_) | (show Post _ _ _ _ _; first | refine Post.seq ?_ | refine Post.blk ?_) | refine SW.nil ?_ | refine SW.pure rfl rfl ?_ | (show SW _ _ _ _ (⟨_, Op.binOp _ _ _ _ _, _, _, _, none⟩ :: _) _ _; refine SW.st (st_add rfl rfl (by omega) (by omega)) rfl ?_))
   exact Post.again (c + 1) ⟨rfl, rfl, rfl, congrArg (fun z => some (Value.int .i64 z)) (by omega), trivial⟩ (by omega) ⟨by omega, hw, hK, hb3, hb6, hX, hT'⟩
  ·have hce : (c : Int) = pw x.Order := by omega
   have hty : tyAt z.Types (stIdx z x) t c = stTypes z x t := by
    unfold tyAt stTypes
    rcases pw_cases f1 f2 with ⟨e1, e2⟩ | ⟨e1, e2⟩ | ⟨e1, e2⟩ | ⟨e1, e2⟩ | ⟨e1, e2⟩
    ·omega
    ·omega
    ·rw [if_neg (by omega), if_pos (by omega), if_neg (by omega), if_neg (by omega)]
    ·rw [if_neg (by omega), if_pos (by omega), if_neg (by omega), if_neg (by omega)]
    ·rw [if_neg (by omega), if_neg (by omega), if_neg (by omega), if_pos (by omega)]
   rw [hty] at hT
   have hto := stTo_max (b := x) (by omega) f2 f5
   repeat' (first | (show CW _ _ _ _ _ _; first | refine CW.seq ?_ | refine CW.region ?_ | refine CW.block ?_ | refine CW.condd_f rfl (by omega) ?_ | refine CW.exit ?_) | (show Post _ _ _ _ _; first | refine Post.seq ?_ | refine Post.seq_exit ?_ | refine Post.hit ?_ | refine Post.again_exit ?_) | refine SW.nil ?_ | refine SW.pure rfl rfl ?_ | (show SW _ _ _ _ (⟨_, Op.fieldAddr _ _ _, _, _, _, none⟩ :: _) _ _; refine SW.st (st_field rfl) rfl ?_) | (show SW _ _ _ _ (⟨_, Op.binOp _ _ _ _ _, _, _, _, none⟩ :: _) _ _; first | refine SW.st (st_add rfl rfl (by omega) (by omega)) rfl ?_ | refine SW.st (st_mul rfl rfl (by omega) (by omega)) rfl ?_ | refine SW.st (st_quo rfl rfl (by omega) (by omega) (by omega)) rfl ?_) | (show SW _ _ _ _ (⟨_, Op.call ⟨.builtin .len, _, _⟩, _, _, _, none⟩ :: _) _ _; refine SW.st (st_len rfl) rfl ?_) | (show SW _ _ _ _ (⟨_, Op.load _ _, _, _, _, none⟩ :: _) _ _; first | refine SW.st (st_loads rfl rfl ((fun _ _ => hb6.cell))) rfl ?_ | refine SW.st (st_load rfl (hb6.cell (i := 0) (v := .int .i64 x.At) rfl)) rfl ?_ | refine SW.st (st_load rfl (hb3.cell (i := 2) (v := .slice r.Free.A r.Free.n r.Free.c) rfl)) rfl ?_) | (show SW _ _ _ _ (⟨_, Op.call ⟨.value (.func _), _, _⟩, _, _, _, none⟩ :: _) _ _; (refine SW.call rfl rfl (cE _) ?_; intro v w1 hw1 hv; subst hv; replace hw := Ext.trans hw hw1; replace hb3 := hb3.ext hw1; replace hb6 := hb6.ext hw1; replace hX := hX.ext hw1; replace hT := hT.ext hw1; replace hK := hK.ext hw1; clear hw1)) | (refine SW.st ((st_max rfl rfl).eq (congrArg (Value.int .i64) hto)) rfl ?_))
   clear hb6 cE hgr
   obtain ⟨f, hf⟩ : ∃ f, stB (x.At / 8 * 8) (stTo x) t = f := ⟨_, rfl⟩
   refine CW.loop (fun j : Nat => [(2, .int .i64 t), (3, .pointer (some ⟨b3, 0, none⟩)), (8, .int .i64 (x.At / 8 * 8)), (9, .int .i64 (stTo x)), (47, .slice r.Free.A r.Free.n r.Free.c), (48, .int .i64 (r.Free.n : Int)), (49, .int .i64 (j : Int))])
    (fun j w' => j ≤ r.Free.n ∧ Ext base w' ∧ KeepT 25 w w' ∧ Blk w' b3 25 (encZ r) ∧ Own w' base.heap.size 55 3 encBk r.Free.A r.Free.n r.Free.c (mapTo f z.Free j) ∧ Own w' base.heap.size 3 1 encI r.Types.A r.Types.n r.Types.c (stTypes z x t))
    (fun j => r.Free.n - j) 0 ⟨rfl, rfl, rfl, rfl, rfl, rfl, rfl, trivial⟩ ⟨by omega, hw, hK, hb3, by rw [mapTo_zero]; exact hX, hT⟩ ?_
   clear hw hK hb3 hX hT
   rintro j w' ⟨hj, hw, hK, hb3, hX, hT⟩
   by_cases hjn : j < r.Free.n
   ·have hjl : j < z.Free.length := by omega
    obtain ⟨g1, g2, g3, g4, g5⟩ := (hz.blk j hjl).1
    obtain ⟨y, hy⟩ : ∃ y, z.Free[j] = y := ⟨_, rfl⟩
    have hget := mapTo_get (f := f) hjl
    rw [hy] at g1 g2 g3 g4 g5 hget
    have hall := hX.sl.all hjn
    simp only [hget] at hall
    have hpy := pw_le g1 g2
    have cY : ∀ w', Ans Tryd.prog 23 [.agg (encBk y).toArray] w' fun v _ => v = .int .i64 (y.At + pw y.Order) := fun w' => Zend_ans y w' ⟨g1, g2⟩ ⟨by omega, by omega⟩
    repeat' (first | (show CW _ _ _ _ _ _; first | refine CW.seq ?_ | refine CW.region ?_ | refine CW.block ?_ | refine CW.condd_t rfl (by omega) ?_ | refine CW.skip ?_) | (show Post _ _ _ _ _; refine Post.seq ?_) | refine SW.nil ?_ | refine SW.pure rfl rfl ?_ | (show SW _ _ _ _ (⟨_, Op.indexAddr _ _ _, _, _, _, none⟩ :: _) _ _; refine SW.st (st_indexN rfl rfl (by assumption) (by omega)) rfl ?_) | (show SW _ _ _ _ (⟨_, Op.load _ _, _, _, _, none⟩ :: _) _ _; refine SW.st (st_loads rfl rfl hall) rfl ?_))
    refine SW.alloc rfl fun b11 w1 hw1 hb hb11 => ?_
    have hbw : base.heap.size ≤ b11 := Nat.le_trans hw.size hb
    have hne : ownB r.Free.A r.Free.c ≠ some b11 := fun e => by have := hX.lt_size _ e; omega
    replace hw := Ext.trans hw hw1
    replace hb3 := hb3.ext hw1
    replace hX := hX.ext hw1
    replace hT := hT.ext hw1
    replace hK := hK.ext hw1
    repeat' (refine SW.pure rfl rfl ?_)
    refine SW.storeAgg hb11 rfl rfl rfl rfl (Enc.one (enc := encBk) y) fun w2 hb11' hg => ?_
    have hG := hb11.gr hg
    replace hw := hw.own hbw hg
    replace hX := hX.grown hg (.inr hne)
    (replace hb3 := hb3.grT hG rfl; replace hT := hT.grT hG rfl; replace hK := hK.grT hG rfl)
    replace hb11 := hb11'
    clear hb11' hg hG hw1 hb
    by_cases hcond : x.At / 8 * 8 ≤ y.At ∧ y.At + pw y.Order ≤ stTo x
    ·have hfy : f y = ⟨y.At, y.Order, t⟩ := by rw [← hf]; unfold stB; rw [if_pos hcond]
     repeat' (first | (show CW _ _ _ _ _ _; first | refine CW.seq ?_ | refine CW.region ?_ | refine CW.condd_t rfl (by omega) ?_) | (show Post _ _ _ _ _; refine Post.seq ?_) | refine SW.nil ?_ | (show SW _ _ _ _ (⟨_, _, _, _, _, some _⟩ :: _) _ _; first | refine SW.want_t rfl rfl (by with_reducible rfl) ?_ | refine SW.splitd_t rfl rfl rfl (by omega) ?_) | refine SW.pure rfl rfl ?_ | (show SW _ _ _ _ (⟨_, Op.fieldAddr _ _ _, _, _, _, none⟩ :: _) _ _; refine SW.st (st_field rfl) rfl ?_) | (show SW _ _ _ _ (⟨_, Op.indexAddr _ _ _, _, _, _, none⟩ :: _) _ _; refine SW.st (st_indexN rfl rfl (by assumption) (by omega)) rfl ?_) | (show SW _ _ _ _ (⟨_, Op.load _ _, _, _, _, none⟩ :: _) _ _; first | refine SW.st (st_load rfl (hb11.cell (i := 0) (v := .int .i64 y.At) rfl)) rfl ?_ | refine SW.st (st_loads rfl rfl ((fun _ _ => hb11.cell))) rfl ?_ | refine SW.st (st_load rfl (hb3.cell (i := 2) (v := .slice r.Free.A r.Free.n r.Free.c) rfl)) rfl ?_) | (show SW _ _ _ _ (⟨_, Op.call ⟨.value (.func _), _, _⟩, _, _, _, none⟩ :: _) _ _; (refine SW.call rfl rfl (cY _) ?_; intro v w1 hw1 hv; subst hv; replace hw := Ext.trans hw hw1; replace hb3 := hb3.ext hw1; replace hb11 := hb11.ext hw1; replace hX := hX.ext hw1; replace hT := hT.ext hw1; replace hK := hK.ext hw1; clear hw1)))
     refine SW.storeO j 2 ⟨y.At, y.Order, t⟩ hX rfl rfl rfl hjn (by decide) rfl (by rw [hget]; rfl) fun w5 hX' hg => ?_
     have hG := hX.gr hg
     replace hw := ext_grown hw hg (Nat.le_refl _) hX.row_ge
     (replace hb3 := hb3.grT hG rfl; replace hT := hT.grT hG rfl; replace hK := hK.grT hG rfl)
     rw [← hfy, ← hy, mapTo_set hjl] at hX'
     repeat' (first | (show CW _ _ _ _ _ _; refine CW.region ?_) | (show Post _ _ _ _ _; first | refine Post.seq ?_ | refine Post.blk ?_) | refine SW.nil ?_ | refine SW.pure rfl rfl ?_ | (show SW _ _ _ _ (⟨_, Op.binOp _ _ _ _ _, _, _, _, none⟩ :: _) _ _; refine SW.st (st_add rfl rfl (by omega) (by omega)) rfl ?_))
     exact Post.again (j + 1) ⟨rfl, rfl, rfl, rfl, rfl, rfl, rfl, trivial⟩ (by omega) ⟨by omega, hw, hK, hb3, hX', hT⟩
    ·have hfy : f y = y := by rw [← hf]; unfold stB; rw [if_neg hcond]
     have hsk := mapTo_skip (f := f) hjl (by rw [hy]; exact hfy)
     by_cases hc1 : x.At / 8 * 8 ≤ y.At
     all_goals
      repeat' (first | (show CW _ _ _ _ _ _; first | refine CW.seq ?_ | refine CW.region ?_ | refine CW.condfr rfl (by with_reducible rfl) ?_ | refine CW.condd_f rfl (by omega) ?_ | refine CW.skip ?_) | (show Post _ _ _ _ _; first | refine Post.seq ?_ | refine Post.blk ?_) | refine SW.nil ?_ | (show SW _ _ _ _ (⟨_, _, _, _, _, some _⟩ :: _) _ _; first | refine SW.want_t rfl rfl (by with_reducible rfl) ?_ | refine SW.skip_t rfl rfl (by with_reducible rfl) rfl ?_ | refine SW.splitd_t rfl rfl rfl (by omega) ?_ | refine SW.splitd_f rfl rfl rfl (by omega) ?_) | refine SW.pure rfl rfl ?_ | (show SW _ _ _ _ (⟨_, Op.fieldAddr _ _ _, _, _, _, none⟩ :: _) _ _; refine SW.st (st_field rfl) rfl ?_) | (show SW _ _ _ _ (⟨_, Op.binOp _ _ _ _ _, _, _, _, none⟩ :: _) _ _; refine SW.st (st_add rfl rfl (by omega) (by omega)) rfl ?_) | (show SW _ _ _ _ (⟨_, Op.load _ _, _, _, _, none⟩ :: _) _ _; first | refine SW.st (st_load rfl (hb11.cell (i := 0) (v := .int .i64 y.At) rfl)) rfl ?_ | refine SW.st (st_loads rfl rfl ((fun _ _ => hb11.cell))) rfl ?_) | (show SW _ _ _ _ (⟨_, Op.call ⟨.value (.func _), _, _⟩, _, _, _, none⟩ :: _) _ _; (refine SW.call rfl rfl (cY _) ?_; intro v w1 hw1 hv; subst hv; replace hw := Ext.trans hw hw1; replace hb3 := hb3.ext hw1; replace hb11 := hb11.ext hw1; replace hX := hX.ext hw1; replace hT := hT.ext hw1; replace hK := hK.ext hw1; clear hw1)))
      exact Post.again (j + 1) ⟨rfl, rfl, rfl, rfl, rfl, rfl, rfl, trivial⟩ (by omega) ⟨by omega, hw, hK, hb3, by rw [hsk]; exact hX, hT⟩
   ·obtain rfl : j = r.Free.n := by omega
    repeat' (first | (show CW _ _ _ _ _ _; first | refine CW.seq ?_ | refine CW.region ?_ | refine CW.condd_f rfl (by omega) ?_ | refine CW.exit ?_) | (show Post _ _ _ _ _; first | refine Post.seq ?_ | refine Post.seq_exit ?_ | refine Post.hit ?_ | refine Post.again_exit ?_) | refine SW.nil ?_ | refine SW.pure rfl rfl ?_)
    rw [← hFl, mapTo_all, hFl, ← hf] at hX
    exact Post.end0 rfl ⟨_, rfl, hw, hK, by rw [stFree, if_neg h2]; exact hX, hT⟩
end Go.Proofs.YtfommgdbahemfaaDoor
