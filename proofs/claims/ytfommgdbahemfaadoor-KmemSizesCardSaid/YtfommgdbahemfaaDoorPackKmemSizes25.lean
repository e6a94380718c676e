/-
  Contracts: kmem.whole, isSlab, wholeAt, ours.
-/
import Derived.Test.YtfommgdbahemfaaDoorPackKmemSizes24
set_option linter.unusedVariables false
set_option linter.unusedSimpArgs false
namespace Go.Proofs.YtfommgdbahemfaaDoor
open Go.RowKit

theorem SlSb_uniq {w : World} {A : Option Addr} {n : Nat} {l l' : List Slab} (h : Sl w 3 encSb A n l) (h' : Sl w 3 encSb A n l') : l = l' := by
  have e1 := h.len
  have e2 := h'.len
  refine List.ext_getElem (by omega) fun k h1 h2 => ?_
  obtain ⟨x, hx⟩ : ∃ x, l[k] = x := ⟨_, rfl⟩
  obtain ⟨y, hy⟩ : ∃ y, l'[k] = y := ⟨_, rfl⟩
  have a := h.all (i := k) (by omega)
  have b := h'.all (i := k) (by omega)
  rw [show l[k]'(h.lt (by omega)) = x from hx] at a
  rw [show l'[k]'(h'.lt (by omega)) = y from hy] at b
  have p0 := (a 0 (.int .i64 x.At) rfl).symm.trans (b 0 (.int .i64 y.At) rfl)
  have p1 := (a 1 (.int .i64 x.Free) rfl).symm.trans (b 1 (.int .i64 y.Free) rfl)
  have p2 := (a 2 (.int .i64 x.First) rfl).symm.trans (b 2 (.int .i64 y.First) rfl)
  simp at p0 p1 p2
  rw [hx, hy]
  cases x
  cases y
  simp only at p0 p1 p2
  rw [p0, p1, p2]

theorem ContainsFuncSlab_ans (A : Option Addr) (n c : Nat) (l : List Slab) (w : World) (hl : Sl w 3 encSb A n l) (f : FuncId) (cap : List Value) [Body Tryd.prog f] (p : Slab → Bool) (arg : Slab → Value) (harg : ∀ x, arg x = (if 3 = 1 then (encSb x)[0]?.getD undef else .agg (encSb x).toArray))
    (hf : ∀ x ∈ l, ∀ w', Ext w w' → Ans Tryd.prog f ([arg x] ++ cap) w' fun v _ => v = .bool (p x)) (hn : n ≤ 9223372036854775807) :
    Ans Tryd.prog 77 [.slice A n c, .func (.func f) #[] cap.toArray] w fun v _ => v = .bool (l.any p) := by
  refine ans_of Tryd.func77 rfl Tryd.ntmps77 rfl ?_
  have hw := Ext.refl w
  repeat' (first | (show CW _ _ _ _ _ _; first | refine CW.seq ?_ | refine CW.region ?_ | refine CW.ret ?_) | (show Post _ _ _ _ _; refine Post.seq ?_) | refine SW.nil ?_ | refine SW.pure rfl rfl ?_ | (show SW _ _ _ _ (⟨_, Op.call ⟨.value (.func _), _, _⟩, _, _, _, none⟩ :: _) _ _; (refine SW.call rfl rfl (IndexFuncSlab_ans _ _ _ _ _ (hl.ext hw) f cap p arg harg (fun x hx w1 h1 => hf x hx w1 (Ext.trans hw h1)) hn) ?_; intro v w1 hw1 hv; subst hv; replace hw := Ext.trans hw hw1; clear hw1)))
  exact Post.ret1 rfl rfl ⟨_, rfl, hw, by rw [idxOf_ge]⟩

def slabC (t : Int) (c : KCache) : Bool := c.Slabs.any (atB t)
def isSlabB (s : KSystem) (t : Int) : Bool := s.Caches.any (slabC t)
def wholeP (s : KSystem) (a : Int) : Bool := decide (0 ≤ a ∧ a % 16 = 0) && (!isSlabB s (a / 16) && foundA s.Heap.Live (a / 16))
theorem slabP_ex (w : World) (t : Int) : ∃ p : CRow → Bool, ∀ x c, RdC w x c → p x = slabC t c := by
  classical
  refine ⟨fun x => decide (∃ c, RdC w x c ∧ slabC t c = true), fun x c h => ?_⟩
  cases e : slabC t c
  · refine decide_eq_false ?_
    rintro ⟨c', h', e'⟩
    unfold slabC at e e'
    rw [SlSb_uniq h'.slabs h.slabs, e] at e'
    cases e'
  · exact decide_eq_true ⟨c, h, e⟩

theorem wF2_ans (t : Int) (b6 : Nat) (x : Slab) (w : World) (h6 : Blk w b6 3 [.int .i64 t]) :
    Ans Tryd.prog 78 ([.agg (encSb x).toArray] ++ [.pointer (some ⟨b6, 0, none⟩)]) w fun v _ => v = .bool (atB t x) := by
  refine ans_of Tryd.func78 rfl Tryd.ntmps78 rfl ?_
  refine CW.seq (CW.region (SW.box rfl rfl fun b1 w1 hw hb1b hb1 => ?_))
  replace h6 := h6.ext hw
  have h6c := h6.cell (i := 0) (v := .int .i64 t) rfl
  rw [add_zero] at h6c
  repeat' (first | (show CW _ _ _ _ _ _; first | refine CW.seq ?_ | refine CW.region ?_ | refine CW.ret ?_) | (show Post _ _ _ _ _; refine Post.seq ?_) | refine SW.nil ?_ | refine SW.pure rfl rfl ?_ | (show SW _ _ _ _ (⟨_, Op.fieldAddr _ _ _, _, _, _, none⟩ :: _) _ _; refine SW.st (st_field rfl) rfl ?_) | (show SW _ _ _ _ (⟨_, Op.load _ _, _, _, _, none⟩ :: _) _ _; first | refine SW.st (st_load rfl (hb1.cell rfl)) rfl ?_ | refine SW.st (st_load rfl h6c) rfl ?_))
  exact Post.ret1 rfl rfl ⟨_, rfl, hw, rfl⟩
theorem wF1_ans (t : Int) (b6 : Nat) (x : CRow) (c : KCache) (w : World) (h6 : Blk w b6 3 [.int .i64 t]) (hx : RdC w x c) (hn : x.Slabs.n ≤ 9223372036854775807) :
    Ans Tryd.prog 76 ([.agg (encC x).toArray] ++ [.pointer (some ⟨b6, 0, none⟩)]) w fun v _ => v = .bool (slabC t c) := by
  refine ans_of Tryd.func76 rfl Tryd.ntmps76 rfl ?_
  refine CW.seq (CW.region (SW.box rfl rfl fun b2 w1 hw hb2b hb2 => ?_))
  replace h6 := h6.ext hw
  repeat' (first | (show CW _ _ _ _ _ _; first | refine CW.seq ?_ | refine CW.region ?_) | (show Post _ _ _ _ _; refine Post.seq ?_) | refine SW.nil ?_ | refine SW.pure rfl rfl ?_ | (show SW _ _ _ _ (⟨_, Op.fieldAddr _ _ _, _, _, _, none⟩ :: _) _ _; refine SW.st (st_field rfl) rfl ?_) | (show SW _ _ _ _ (⟨_, Op.load _ _, _, _, _, none⟩ :: _) _ _; refine SW.st (st_load rfl (hb2.cell (i := 4) (v := .slice x.Slabs.A x.Slabs.n x.Slabs.c) rfl)) rfl ?_) | (refine SW.st (st_func (vs := [.pointer (some ⟨b6, 0, none⟩)]) rfl) rfl ?_))
  refine SW.call rfl rfl (ContainsFuncSlab_ans _ _ _ c.Slabs _ (hx.slabs.ext hw) _ [.pointer (some ⟨b6, 0, none⟩)] (atB t) (fun x => .agg (encSb x).toArray) (fun x => rfl) (fun x hx w1 hx1 => wF2_ans t b6 x w1 (h6.ext hx1)) hn) fun v w4 hw4 hv => ?_
  subst hv
  replace hw := Ext.trans hw hw4
  repeat' (first | (show CW _ _ _ _ _ _; refine CW.ret ?_) | (show Post _ _ _ _ _; refine Post.seq ?_) | refine SW.nil ?_ | refine SW.pure rfl rfl ?_)
  exact Post.ret1 rfl rfl ⟨_, rfl, hw, rfl⟩
theorem wcmp_ans (x : Block) (a : Int) (w : World) (hx : -4000000000000000000 ≤ x.At ∧ x.At ≤ 4000000000000000000) (ha : -4000000000000000000 ≤ a ∧ a ≤ 4000000000000000000) : Ans Tryd.prog 79 ([.agg (encBk x).toArray, .int .i64 a] ++ []) w fun v _ => v = .int .i64 (x.At - a) := by
  refine ans_of Tryd.func79 rfl Tryd.ntmps79 rfl ?_
  refine CW.seq (CW.region (SW.box rfl rfl fun b1 w1 hw hb1b hb1 => ?_))
  repeat' (first | (show CW _ _ _ _ _ _; first | refine CW.seq ?_ | refine CW.region ?_ | refine CW.ret ?_) | (show Post _ _ _ _ _; refine Post.seq ?_) | refine SW.nil ?_ | refine SW.pure rfl rfl ?_ | (show SW _ _ _ _ (⟨_, Op.fieldAddr _ _ _, _, _, _, none⟩ :: _) _ _; refine SW.st (st_field rfl) rfl ?_) | (show SW _ _ _ _ (⟨_, Op.binOp _ _ _ _ _, _, _, _, none⟩ :: _) _ _; refine SW.st (st_sub rfl rfl (by omega) (by omega)) rfl ?_) | (show SW _ _ _ _ (⟨_, Op.load _ _, _, _, _, none⟩ :: _) _ _; refine SW.st (st_load rfl (hb1.cell rfl)) rfl ?_))
  exact Post.ret1 rfl rfl ⟨_, rfl, hw, rfl⟩

theorem whole_ans (r : SRow) (s : KSystem) (a : Int) (w : World) (hr : RdS w r s) (hs : s.small) (hM : SystemMay s) (ha : -9223372036854775808 ≤ a ∧ a ≤ 9223372036854775807) :
    Ans Tryd.prog 38 [.agg (encSys r).toArray, .int .i64 a] w fun v _ => ∃ i : Int, v = .tuple #[.int .i64 i, .bool (wholeP s a)] ∧ (wholeP s a = true → i = (lbOf s.Heap.Live (a / 16) : Int)) := by
  refine ans_of Tryd.func38 rfl Tryd.ntmps38 rfl ?_
  refine CW.seq (CW.region (SW.box rfl rfl fun b2 w1 hw hb2b hb2 => ?_))
  obtain ⟨cs, hc⟩ := hr.caches
  obtain ⟨z1, z2⟩ := hc.len
  have m3 := hs.caches
  have hll := hr.heap.live.len
  have m5 := hs.heap.live
  by_cases h0 : 0 ≤ a
  · have hmt : a.tmod 16 = a % 16 := Int.tmod_eq_emod_of_nonneg h0
    by_cases h1 : a % 16 = 0
    · obtain ⟨t, ht⟩ : ∃ t, a / 16 = t := ⟨_, rfl⟩
      have ht0 : 0 ≤ t ∧ t ≤ 1000000000000000000 := by omega
      obtain ⟨p, hp⟩ := slabP_ex w t
      have hcong := idxOf_congr (p := p) (q := slabC t) (l := cs) (m := s.Caches) (by omega) fun k h1 h2 => hp _ _ (hc.each.get k h1 h2)
      have hP : wholeP s a = (!isSlabB s t && foundA s.Heap.Live t) := by unfold wholeP; rw [decide_eq_true ⟨h0, h1⟩, ht, Bool.true_and]
      repeat' (first | (show CW _ _ _ _ _ _; first | refine CW.seq ?_ | refine CW.region ?_ | refine CW.condn_f rfl (by omega) ?_ | refine CW.skip ?_) | (show Post _ _ _ _ _; refine Post.seq ?_) | refine SW.nil ?_ | (show SW _ _ _ _ (⟨_, _, _, _, _, some _⟩ :: _) _ _; first | refine SW.want_f rfl rfl (by with_reducible rfl) ?_ | refine SW.splitd_f rfl rfl rfl (by omega) ?_) | refine SW.pure rfl rfl ?_ | (show SW _ _ _ _ (⟨_, Op.binOp _ _ _ _ _, _, _, _, none⟩ :: _) _ _; first | refine SW.st (st_quo rfl rfl (by omega) (by omega) (by omega)) rfl ?_ | refine SW.st (st_rem rfl rfl (by omega)) rfl ?_))
      refine SW.alloc rfl fun b6 w2 hw2 h6b hb6 => ?_
      have h6w : w.heap.size ≤ b6 := Nat.le_trans hw.size h6b
      (replace hw := Ext.trans hw hw2; replace hb2 := hb2.ext hw2)
      skip
      refine SW.storeB (i := 0) hb6 rfl rfl rfl rfl fun w3 hb6' hg => ?_
      have hG := hb6.gr hg
      replace hw := hw.own h6w hg
      (replace hb2 := hb2.grT hG rfl)
      replace hb6 : Blk w3 b6 3 [.int .i64 t] := by rw [← ht]; exact hb6'
      have h6c := hb6.cell (i := 0) (v := .int .i64 t) rfl
      rw [add_zero] at h6c
      clear hb6' hg hG
      repeat' (first | (show CW _ _ _ _ _ _; first | refine CW.seq ?_ | refine CW.region ?_) | (show Post _ _ _ _ _; refine Post.seq ?_) | refine SW.nil ?_ | (show SW _ _ _ _ (⟨_, Op.fieldAddr _ _ _, _, _, _, none⟩ :: _) _ _; refine SW.st (st_field rfl) rfl ?_) | (show SW _ _ _ _ (⟨_, Op.load _ _, _, _, _, none⟩ :: _) _ _; refine SW.st (st_load rfl (hb2.cell (i := 6) (v := .slice r.Caches.A r.Caches.n r.Caches.c) rfl)) rfl ?_) | (refine SW.st (st_func (vs := [.pointer (some ⟨b6, 0, none⟩)]) rfl) rfl ?_))
      refine SW.call rfl rfl (ContainsFuncCRow_ans _ _ _ cs _ (hc.row.ext hw) _ [.pointer (some ⟨b6, 0, none⟩)] p (fun x => .agg (encC x).toArray) (fun x => rfl) (fun x hx w1 hx1 => by
        obtain ⟨k, hk, rfl⟩ := List.getElem_of_mem hx
        have hk' : k < s.Caches.length := by omega
        have hck := hc.each.get k hk hk'
        have q1 := (hs.each _ (List.getElem_mem hk')).slabs
        have q2 := hck.slabs.len
        rw [hp _ _ hck]
        exact wF1_ans t b6 _ _ w1 (hb6.ext hx1) (hck.ext (Ext.trans hw hx1)) (by omega)) (by omega)) fun v w4 hw4 hv => ?_
      subst hv
      rw [hcong.2, show s.Caches.any (slabC t) = isSlabB s t from rfl]
      (replace hw := Ext.trans hw hw4; replace hb2 := hb2.ext hw4; replace hb6 := hb6.ext hw4)
      have h6c := hb6.cell (i := 0) (v := .int .i64 t) rfl
      rw [add_zero] at h6c
      cases hi : isSlabB s t
      · rw [hi] at hP
        simp only [Bool.not_false, Bool.true_and] at hP
        repeat' (first | (show CW _ _ _ _ _ _; first | refine CW.seq ?_ | refine CW.region ?_ | refine CW.condfr rfl (by with_reducible rfl) ?_ | refine CW.skip ?_) | (show Post _ _ _ _ _; refine Post.seq ?_) | refine SW.nil ?_ | (show SW _ _ _ _ (⟨_, Op.fieldAddr _ _ _, _, _, _, none⟩ :: _) _ _; refine SW.st (st_field rfl) rfl ?_) | (show SW _ _ _ _ (⟨_, Op.load _ _, _, _, _, none⟩ :: _) _ _; first | refine SW.st (st_load rfl (hb2.cell (i := 5) (v := .slice r.Heap.Live.A r.Heap.Live.n r.Heap.Live.c) rfl)) rfl ?_ | refine SW.st (st_load rfl h6c) rfl ?_))
        refine SW.call rfl rfl (BinaryBlock_ans _ _ _ s.Heap.Live t _ (hr.heap.live.ext hw) 79 (fun x hx w1 hx1 => by
          obtain ⟨k, hk, rfl⟩ := List.getElem_of_mem hx
          obtain ⟨l1, l2, l3, l4⟩ := hM.heap.live.each k hk
          exact wcmp_ans _ t w1 (by omega) (by omega)) (live_lt hM.heap.live) (by omega)) fun v w5 hw5 hv => ?_
        subst hv
        (replace hw := Ext.trans hw hw5; replace hb2 := hb2.ext hw5; replace hb6 := hb6.ext hw5)
        repeat' (first | (show CW _ _ _ _ _ _; first | refine CW.seq ?_ | refine CW.region ?_ | refine CW.ret ?_) | (show Post _ _ _ _ _; refine Post.seq ?_) | refine SW.nil ?_ | refine SW.pure rfl rfl ?_)
        exact Post.ret2 rfl rfl rfl ⟨_, rfl, hw, (lbOf s.Heap.Live t : Int), by rw [hP]; rfl, fun _ => by rw [ht]⟩
      · rw [hi] at hP
        simp only [Bool.not_true, Bool.false_and] at hP
        repeat' (first | (show CW _ _ _ _ _ _; first | refine CW.seq ?_ | refine CW.region ?_ | refine CW.condtr rfl (by with_reducible rfl) ?_ | refine CW.ret ?_) | (show Post _ _ _ _ _; first | refine Post.seq ?_ | refine Post.seq_ret ?_) | refine SW.nil ?_ | refine SW.pure rfl rfl ?_)
        exact Post.ret2 rfl rfl rfl ⟨_, rfl, hw, 0, by rw [hP], fun h => by rw [hP] at h; cases h⟩
    · have hP : wholeP s a = false := by unfold wholeP; rw [decide_eq_false (by omega)]; rfl
      repeat' (first | (show CW _ _ _ _ _ _; first | refine CW.seq ?_ | refine CW.region ?_ | refine CW.condn_t rfl (by omega) ?_ | refine CW.ret ?_) | (show Post _ _ _ _ _; first | refine Post.seq ?_ | refine Post.seq_ret ?_) | refine SW.nil ?_ | (show SW _ _ _ _ (⟨_, _, _, _, _, some _⟩ :: _) _ _; first | refine SW.want_f rfl rfl (by with_reducible rfl) ?_ | refine SW.splitd_f rfl rfl rfl (by omega) ?_) | refine SW.pure rfl rfl ?_ | (show SW _ _ _ _ (⟨_, Op.binOp _ _ _ _ _, _, _, _, none⟩ :: _) _ _; refine SW.st (st_rem rfl rfl (by omega)) rfl ?_))
      exact Post.ret2 rfl rfl rfl ⟨_, rfl, hw, 0, by rw [hP], fun h => by rw [hP] at h; cases h⟩
  · have hP : wholeP s a = false := by unfold wholeP; rw [decide_eq_false (by omega)]; rfl
    repeat' (first | (show CW _ _ _ _ _ _; first | refine CW.seq ?_ | refine CW.region ?_ | refine CW.condtr rfl (by with_reducible rfl) ?_ | refine CW.ret ?_) | (show Post _ _ _ _ _; first | refine Post.seq ?_ | refine Post.seq_ret ?_) | refine SW.nil ?_ | (show SW _ _ _ _ (⟨_, _, _, _, _, some _⟩ :: _) _ _; first | refine SW.skip_f rfl rfl (by with_reducible rfl) rfl ?_ | refine SW.splitd_t rfl rfl rfl (by omega) ?_) | refine SW.pure rfl rfl ?_)
    exact Post.ret2 rfl rfl rfl ⟨_, rfl, hw, 0, by rw [hP], fun h => by rw [hP] at h; cases h⟩

theorem isSlab_ans (r : SRow) (s : KSystem) (t : Int) (w : World) (hr : RdS w r s) (hs : s.small) :
    Ans Tryd.prog 85 [.agg (encSys r).toArray, .int .i64 t] w fun v _ => v = .bool (isSlabB s t) := by
  refine ans_of Tryd.func85 rfl Tryd.ntmps85 rfl ?_
  refine CW.seq (CW.region (SW.box rfl rfl fun b2 w1 hw hb2b hb2 => ?_))
  obtain ⟨cs, hc⟩ := hr.caches
  obtain ⟨z1, z2⟩ := hc.len
  have m3 := hs.caches
  repeat' (first | (show CW _ _ _ _ _ _; first | refine CW.seq ?_ | refine CW.region ?_ | refine CW.block ?_) | (show Post _ _ _ _ _; refine Post.seq ?_) | refine SW.nil ?_ | refine SW.pure rfl rfl ?_)
  refine CW.loop (fun k : Nat => [(1, .int .i64 t), (2, .pointer (some ⟨b2, 0, none⟩)), (5, .int .i64 (k : Int))])
    (fun k w' => k ≤ r.Caches.n ∧ Ext w w' ∧ Blk w' b2 38 (encSys r) ∧ ∀ (j : Nat) (hj : j < s.Caches.length), j < k → slabC t s.Caches[j] = false) (fun k => r.Caches.n - k) 0
    ⟨rfl, rfl, rfl, trivial⟩ ⟨by omega, hw, hb2, fun j hj h => by omega⟩ ?_
  clear hw hb2
  rintro i w' ⟨hk, hw, hb2, hI⟩
  have hA := hc.row.base
  by_cases hin : i < r.Caches.n
  · have hic : i < cs.length := by omega
    have hil : i < s.Caches.length := by omega
    have hck := hc.each.get i hic hil
    have sm := (hs.each _ (List.getElem_mem hil)).slabs
    have q1 := hck.slabs.len
    have cS : ∀ w', Ext w w' → Ans Tryd.prog 117 [.agg (encC cs[i]).toArray, .int .i64 t] w' fun v _ => v = .int .i64 (idxOf (atB t) s.Caches[i].Slabs) := fun w' hx => slabAt_ans _ _ t w' (hck.slabs.ext hx) (by omega)
    have hge := idxOf_ge (atB t) s.Caches[i].Slabs
    cases hh : slabC t s.Caches[i]
    · unfold slabC at hh
      rw [hh] at hge
      have hge := of_decide_eq_false hge
      repeat' (first | (show CW _ _ _ _ _ _; first | refine CW.seq ?_ | refine CW.region ?_ | refine CW.block ?_ | refine CW.condd_t rfl (by omega) ?_ | refine CW.condd_f rfl (by omega) ?_ | refine CW.skip ?_) | (show Post _ _ _ _ _; first | refine Post.seq ?_ | refine Post.blk ?_) | refine SW.nil ?_ | refine SW.pure rfl rfl ?_ | (show SW _ _ _ _ (⟨_, Op.fieldAddr _ _ _, _, _, _, none⟩ :: _) _ _; refine SW.st (st_field rfl) rfl ?_) | (show SW _ _ _ _ (⟨_, Op.binOp _ _ _ _ _, _, _, _, none⟩ :: _) _ _; refine SW.st (st_add rfl rfl (by omega) (by omega)) rfl ?_) | (show SW _ _ _ _ (⟨_, Op.indexAddr _ _ _, _, _, _, none⟩ :: _) _ _; refine SW.st (st_indexN rfl rfl (by assumption) (by omega)) rfl ?_) | (show SW _ _ _ _ (⟨_, Op.call ⟨.builtin .len, _, _⟩, _, _, _, none⟩ :: _) _ _; refine SW.st (st_len rfl) rfl ?_) | (show SW _ _ _ _ (⟨_, Op.load _ _, _, _, _, none⟩ :: _) _ _; first | refine SW.st (st_load rfl (hb2.cell (i := 6) (v := .slice r.Caches.A r.Caches.n r.Caches.c) rfl)) rfl ?_ | refine SW.st (st_loadsx hw rfl rfl ((hc.row.all hin))) rfl ?_) | (show SW _ _ _ _ (⟨_, Op.call ⟨.value (.func _), _, _⟩, _, _, _, none⟩ :: _) _ _; (refine SW.call rfl rfl (cS _ hw) ?_; intro v w1 hw1 hv; subst hv; replace hw := Ext.trans hw hw1; replace hb2 := hb2.ext hw1; clear hw1)))
      exact Post.again (i + 1) ⟨rfl, rfl, rfl, trivial⟩ (by omega) ⟨by omega, hw, hb2, fun j hj h => by
        by_cases e : j = i
        · subst e; exact hh
        · exact hI j hj (by omega)⟩
    · have hP : isSlabB s t = true := List.any_eq_true.2 ⟨_, List.getElem_mem hil, hh⟩
      unfold slabC at hh
      rw [hh] at hge
      have hge := of_decide_eq_true hge
      repeat' (first | (show CW _ _ _ _ _ _; first | refine CW.seq ?_ | refine CW.region ?_ | refine CW.block ?_ | refine CW.condd_t rfl (by omega) ?_ | refine CW.skip ?_ | refine CW.ret ?_) | (show Post _ _ _ _ _; first | refine Post.seq ?_ | refine Post.seq_ret ?_ | refine Post.blk_ret ?_ | refine Post.again_ret ?_) | refine SW.nil ?_ | refine SW.pure rfl rfl ?_ | (show SW _ _ _ _ (⟨_, Op.fieldAddr _ _ _, _, _, _, none⟩ :: _) _ _; refine SW.st (st_field rfl) rfl ?_) | (show SW _ _ _ _ (⟨_, Op.indexAddr _ _ _, _, _, _, none⟩ :: _) _ _; refine SW.st (st_indexN rfl rfl (by assumption) (by omega)) rfl ?_) | (show SW _ _ _ _ (⟨_, Op.call ⟨.builtin .len, _, _⟩, _, _, _, none⟩ :: _) _ _; refine SW.st (st_len rfl) rfl ?_) | (show SW _ _ _ _ (⟨_, Op.load _ _, _, _, _, none⟩ :: _) _ _; first | refine SW.st (st_load rfl (hb2.cell (i := 6) (v := .slice r.Caches.A r.Caches.n r.Caches.c) rfl)) rfl ?_ | refine SW.st (st_loadsx hw rfl rfl ((hc.row.all hin))) rfl ?_) | (show SW _ _ _ _ (⟨_, Op.call ⟨.value (.func _), _, _⟩, _, _, _, none⟩ :: _) _ _; (refine SW.call rfl rfl (cS _ hw) ?_; intro v w1 hw1 hv; subst hv; replace hw := Ext.trans hw hw1; replace hb2 := hb2.ext hw1; clear hw1)))
      exact Post.ret1 rfl rfl ⟨_, rfl, hw, by rw [hP]⟩
  · have hP : isSlabB s t = false := List.any_eq_false.2 fun c hm => by
      obtain ⟨j, hj, rfl⟩ := List.getElem_of_mem hm
      rw [hI j hj (by omega)]
      simp
    repeat' (first | (show CW _ _ _ _ _ _; first | refine CW.seq ?_ | refine CW.region ?_ | refine CW.condd_f rfl (by omega) ?_ | refine CW.ret ?_ | refine CW.exit ?_) | (show Post _ _ _ _ _; first | refine Post.seq ?_ | refine Post.seq_exit ?_ | refine Post.hit ?_ | refine Post.again_exit ?_) | refine SW.nil ?_ | refine SW.pure rfl rfl ?_ | (show SW _ _ _ _ (⟨_, Op.fieldAddr _ _ _, _, _, _, none⟩ :: _) _ _; refine SW.st (st_field rfl) rfl ?_) | (show SW _ _ _ _ (⟨_, Op.call ⟨.builtin .len, _, _⟩, _, _, _, none⟩ :: _) _ _; refine SW.st (st_len rfl) rfl ?_) | (show SW _ _ _ _ (⟨_, Op.load _ _, _, _, _, none⟩ :: _) _ _; refine SW.st (st_load rfl (hb2.cell (i := 6) (v := .slice r.Caches.A r.Caches.n r.Caches.c) rfl)) rfl ?_))
    exact Post.ret1 rfl rfl ⟨_, rfl, hw, by rw [hP]⟩

/-- the order of whole pages; -1: there are none -/
def wholeO (s : KSystem) (a : Int) : Int := if wholeP s a = true then ordA s.Heap.Live (a / 16) else -1
theorem wholeAt_ans (r : SRow) (s : KSystem) (a : Int) (w : World) (hr : RdS w r s) (hs : s.small) (hM : SystemMay s) (ha : -9223372036854775808 ≤ a ∧ a ≤ 9223372036854775807) :
    Ans Tryd.prog 41 [.agg (encSys r).toArray, .int .i64 a] w fun v _ => v = .int .i64 (wholeO s a) := by
  refine ans_of Tryd.func41 rfl Tryd.ntmps41 rfl ?_
  refine CW.seq (CW.region (SW.box rfl rfl fun b2 w1 hw hb2b hb2 => ?_))
  have hll := hr.heap.live.len
  have m5 := hs.heap.live
  by_cases h0 : 0 ≤ a
  · have hmt : a.tmod 16 = a % 16 := Int.tmod_eq_emod_of_nonneg h0
    by_cases h1 : a % 16 = 0
    · obtain ⟨t, ht⟩ : ∃ t, a / 16 = t := ⟨_, rfl⟩
      have ht0 : 0 ≤ t ∧ t ≤ 1000000000000000000 := by omega
      have hP : wholeP s a = (!isSlabB s t && foundA s.Heap.Live t) := by unfold wholeP; rw [decide_eq_true ⟨h0, h1⟩, ht, Bool.true_and]
      obtain ⟨bs, hbs⟩ : ∃ bs, isSlabB s t = bs := ⟨_, rfl⟩
      have c1 : ∀ w', Ext w w' → Ans Tryd.prog 85 [.agg (encSys r).toArray, .int .i64 (a / 16)] w' fun v _ => v = .bool bs := fun w' hx => by
        have := isSlab_ans r s t w' (hr.ext hx) hs
        rwa [hbs, ← ht] at this
      have c2 : ∀ w', Ext w w' → Ans Tryd.prog 86 [.agg (encH r.Heap).toArray, .int .i64 (a / 16)] w' fun v _ => v = .int .i64 (ordA s.Heap.Live t) := fun w' hx => by
        have := liveOrder_ans r.Heap s.Heap.Live t w' (hr.heap.live.ext hx) (live_lt hM.heap.live) (by omega)
        rw [ht]
        exact this
      cases bs
      · rw [hbs] at hP
        simp only [Bool.not_false, Bool.true_and] at hP
        repeat' (first | (show CW _ _ _ _ _ _; first | refine CW.seq ?_ | refine CW.region ?_ | refine CW.condfr rfl (by with_reducible rfl) ?_ | refine CW.skip ?_ | refine CW.ret ?_) | (show Post _ _ _ _ _; refine Post.seq ?_) | refine SW.nil ?_ | (show SW _ _ _ _ (⟨_, _, _, _, _, some _⟩ :: _) _ _; first | refine SW.want_f rfl rfl (by with_reducible rfl) ?_ | refine SW.splitd_f rfl rfl rfl (by omega) ?_ | refine SW.splitn_f rfl rfl rfl (by omega) ?_) | refine SW.pure rfl rfl ?_ | (show SW _ _ _ _ (⟨_, Op.fieldAddr _ _ _, _, _, _, none⟩ :: _) _ _; refine SW.st (st_field rfl) rfl ?_) | (show SW _ _ _ _ (⟨_, Op.binOp _ _ _ _ _, _, _, _, none⟩ :: _) _ _; first | refine SW.st (st_quo rfl rfl (by omega) (by omega) (by omega)) rfl ?_ | refine SW.st (st_rem rfl rfl (by omega)) rfl ?_) | (show SW _ _ _ _ (⟨_, Op.load _ _, _, _, _, none⟩ :: _) _ _; first | refine SW.st (st_loads rfl rfl ((fun _ _ => hb2.cell))) rfl ?_ | refine SW.st (st_loads rfl rfl ((heapIn hb2))) rfl ?_) | (show SW _ _ _ _ (⟨_, Op.call ⟨.value (.func _), _, _⟩, _, _, _, none⟩ :: _) _ _; first | (refine SW.call rfl rfl (c1 _ hw) ?_; intro v w1 hw1 hv; subst hv; replace hw := Ext.trans hw hw1; replace hb2 := hb2.ext hw1; clear hw1) | (refine SW.call rfl rfl (c2 _ hw) ?_; intro v w1 hw1 hv; subst hv; replace hw := Ext.trans hw hw1; replace hb2 := hb2.ext hw1; clear hw1)))
        refine Post.ret1 rfl rfl ⟨_, rfl, hw, congrArg (Value.int .i64) ?_⟩
        unfold wholeO
        rw [hP, ht]
        cases hf : foundA s.Heap.Live t
        · rw [ordA_f hf]; rfl
        · rfl
      · rw [hbs] at hP
        simp only [Bool.not_true, Bool.false_and] at hP
        repeat' (first | (show CW _ _ _ _ _ _; first | refine CW.seq ?_ | refine CW.region ?_ | refine CW.condtr rfl (by with_reducible rfl) ?_ | refine CW.ret ?_) | (show Post _ _ _ _ _; first | refine Post.seq ?_ | refine Post.seq_ret ?_) | refine SW.nil ?_ | (show SW _ _ _ _ (⟨_, _, _, _, _, some _⟩ :: _) _ _; first | refine SW.want_f rfl rfl (by with_reducible rfl) ?_ | refine SW.splitd_f rfl rfl rfl (by omega) ?_ | refine SW.splitn_f rfl rfl rfl (by omega) ?_) | refine SW.pure rfl rfl ?_ | (show SW _ _ _ _ (⟨_, Op.binOp _ _ _ _ _, _, _, _, none⟩ :: _) _ _; first | refine SW.st (st_quo rfl rfl (by omega) (by omega) (by omega)) rfl ?_ | refine SW.st (st_rem rfl rfl (by omega)) rfl ?_) | (show SW _ _ _ _ (⟨_, Op.load _ _, _, _, _, none⟩ :: _) _ _; refine SW.st (st_loads rfl rfl ((fun _ _ => hb2.cell))) rfl ?_) | (show SW _ _ _ _ (⟨_, Op.call ⟨.value (.func _), _, _⟩, _, _, _, none⟩ :: _) _ _; (refine SW.call rfl rfl (c1 _ hw) ?_; intro v w1 hw1 hv; subst hv; replace hw := Ext.trans hw hw1; replace hb2 := hb2.ext hw1; clear hw1)))
        exact Post.ret1 rfl rfl ⟨_, rfl, hw, by unfold wholeO; rw [hP]; rfl⟩
    · have hP : wholeP s a = false := by unfold wholeP; rw [decide_eq_false (by omega)]; rfl
      repeat' (first | (show CW _ _ _ _ _ _; first | refine CW.seq ?_ | refine CW.region ?_ | refine CW.condtr rfl (by with_reducible rfl) ?_ | refine CW.ret ?_) | (show Post _ _ _ _ _; first | refine Post.seq ?_ | refine Post.seq_ret ?_) | refine SW.nil ?_ | (show SW _ _ _ _ (⟨_, _, _, _, _, some _⟩ :: _) _ _; first | refine SW.want_f rfl rfl (by with_reducible rfl) ?_ | refine SW.skip_f rfl rfl (by with_reducible rfl) rfl ?_ | refine SW.splitd_f rfl rfl rfl (by omega) ?_ | refine SW.splitn_t rfl rfl rfl (by omega) ?_) | refine SW.pure rfl rfl ?_ | (show SW _ _ _ _ (⟨_, Op.binOp _ _ _ _ _, _, _, _, none⟩ :: _) _ _; refine SW.st (st_rem rfl rfl (by omega)) rfl ?_))
      exact Post.ret1 rfl rfl ⟨_, rfl, hw, by unfold wholeO; rw [hP]; rfl⟩
  · have hP : wholeP s a = false := by unfold wholeP; rw [decide_eq_false (by omega)]; rfl
    repeat' (first | (show CW _ _ _ _ _ _; first | refine CW.seq ?_ | refine CW.region ?_ | refine CW.condtr rfl (by with_reducible rfl) ?_ | refine CW.ret ?_) | (show Post _ _ _ _ _; first | refine Post.seq ?_ | refine Post.seq_ret ?_) | refine SW.nil ?_ | (show SW _ _ _ _ (⟨_, _, _, _, _, some _⟩ :: _) _ _; first | refine SW.skip_f rfl rfl (by with_reducible rfl) rfl ?_ | refine SW.splitd_t rfl rfl rfl (by omega) ?_) | refine SW.pure rfl rfl ?_)
    exact Post.ret1 rfl rfl ⟨_, rfl, hw, by unfold wholeO; rw [hP]; rfl⟩

theorem named_iff {s : KSystem} (hM : SystemMay s) (n : ByteArray) {i : Nat} (hi : i < s.Caches.length) : idxOf (hasN n) s.Caches = (i : Int) ↔ hasN n s.Caches[i] = true := by
  constructor
  · intro h
    unfold idxOf at h
    split at h
    · rename_i ha
      have e : s.Caches.findIdx (hasN n) = i := by omega
      have := List.findIdx_getElem (p := hasN n) (xs := s.Caches) (w := by omega)
      simp only [e] at this
      exact this
    · omega
  · intro h
    refine idxOf_hit hi h fun j hj hji => ?_
    cases e : hasN n s.Caches[j]
    · rfl
    · exfalso
      unfold hasN at e h
      obtain ⟨k, hk, hkn⟩ := List.getElem_of_mem (hasS_iff.1 h)
      have := ((hM.each i hi).names.each k hk).2.1
      apply this
      rw [hkn]
      refine List.mem_append_left _ (List.mem_flatMap.2 ⟨s.Caches[j], ?_, hasS_iff.1 e⟩)
      exact List.mem_take_iff_getElem.2 ⟨j, by omega, rfl⟩
end Go.Proofs.YtfommgdbahemfaaDoor

/-
  Contracts: ours, kmem.Size, KsizeOf; the law KmemSizes.
-/
set_option linter.unusedVariables false
set_option linter.unusedSimpArgs false
namespace Go.Proofs.YtfommgdbahemfaaDoor
open Go.RowKit

/-- what an object's cache answers -/
inductive OurR (s : KSystem) (a : Int) : Option Nat → Prop where
  | no {u : Int × Int × Int} (hF : FindR s a u) (hn : ∀ (i : Nat) (hi : i < s.Caches.length), u.2.2 = 0 → u.1 = (i : Int) → mineB s.Caches[i] = false) : OurR s a none
  | yes {i : Nat} {k : Int} (hF : FindR s a ((i : Int), k, 0)) (hi : i < s.Caches.length) (hm : mineB s.Caches[i] = true) : OurR s a (some i)
theorem OurR.det {s : KSystem} {a : Int} {u v : Option Nat} (h : OurR s a u) (hv : OurR s a v) : u = v := by
  cases h with
  | no hF hn => cases hv with
    | no => rfl
    | @yes i k hF' hi hm =>
      have e := hF.det hF'
      subst e
      rw [hn i hi rfl rfl] at hm
      cases hm
  | @yes i k hF hi hm => cases hv with
    | no hF' hn =>
      have e := hF.det hF'
      subst e
      rw [hn i hi rfl rfl] at hm
      cases hm
    | @yes i' k' hF' hi' hm' =>
      have e := hF.det hF'
      simp only [Prod.mk.injEq] at e
      have : i = i' := by omega
      rw [this]
theorem FindR.hit_lt {s : KSystem} {a : Int} {u : Int × Int × Int} (h : FindR s a u) (h0 : u.2.2 = 0) : ∃ (i : Nat) (hi : i < s.Caches.length), u.1 = (i : Int) := by
  cases h with
  | bad => simp at h0
  | none => simp at h0
  | free => simp at h0
  | @hit i k out h hF hC hm => exact ⟨i, hF.hi, rfl⟩
theorem FindR.code {s : KSystem} {a : Int} {u : Int × Int × Int} (h : FindR s a u) (hq : sysB s = true) : u.2.2 = 0 ∨ u.2.2 = 4 := by
  cases h with
  | bad h => rw [h] at hq; cases hq
  | none => exact .inr rfl
  | free => exact .inr rfl
  | hit => exact .inl rfl

theorem ours_ans (r : SRow) (s : KSystem) (a : Int) (w : World) (hr : RdS w r s) (hf : s.fine) (hM : SystemMay s) (ha : -9223372036854775808 ≤ a ∧ a ≤ 9223372036854775807) :
    Ans Tryd.prog 40 [.agg (encSys r).toArray, .int .i64 a] w fun v _ => ∃ u, OurR s a u ∧ v = .int .i64 (match u with | some i => (i : Int) | none => -1) := by
  refine ans_of Tryd.func40 rfl Tryd.ntmps40 rfl ?_
  refine CW.seq (CW.region (SW.box rfl rfl fun b2 w1 hw hb2b hb2 => ?_))
  have hs := hf.small
  have hq := sysB_iff.2 hM
  repeat' (first | (show CW _ _ _ _ _ _; first | refine CW.seq ?_ | refine CW.region ?_) | (show Post _ _ _ _ _; refine Post.seq ?_) | refine SW.nil ?_ | refine SW.pure rfl rfl ?_ | (show SW _ _ _ _ (⟨_, Op.load _ _, _, _, _, none⟩ :: _) _ _; refine SW.st (st_loads rfl rfl ((fun _ _ => hb2.cell))) rfl ?_))
  refine SW.call rfl rfl (FoundOf_ans r s a _ (hr.ext hw) hf) fun v w5 hw5 hv => ?_
  obtain ⟨u, hu, rfl⟩ := hv
  (replace hw := Ext.trans hw hw5; replace hb2 := hb2.ext hw5)
  by_cases h0 : u.2.2 = 0
  · obtain ⟨i, hi, hui⟩ := hu.hit_lt h0
    obtain ⟨i', k, e⟩ := u
    simp only at h0 hui
    subst h0 hui
    simp only [findV]
    repeat' (first | (show CW _ _ _ _ _ _; first | refine CW.seq ?_ | refine CW.region ?_ | refine CW.block ?_ | refine CW.condn_f rfl (by omega) ?_ | refine CW.skip ?_) | (show Post _ _ _ _ _; refine Post.seq ?_) | refine SW.nil ?_ | refine SW.pure rfl rfl ?_)
    refine CW.loop (fun j : Nat => [(2, .pointer (some ⟨b2, 0, none⟩)), (5, .int .i64 (i : Int)), (8, .int .i64 ((2 : Int) ^ j))])
      (fun j w' => j ≤ 6 ∧ Ext w w' ∧ Blk w' b2 38 (encSys r) ∧ ∀ (m : Nat), m < j → hasN (kstr ((2 : Int) ^ m)) s.Caches[i] = false) (fun j => 6 - j) 0
      ⟨rfl, rfl, congrArg (fun z => some (Value.int .i64 z)) (by decide), trivial⟩ ⟨by omega, hw, hb2, fun m h => by omega⟩ ?_
    clear hw hb2
    rintro j w' ⟨hj, hw, hb2, hI⟩
    by_cases hj6 : j < 6
    · obtain ⟨z, hz⟩ : ∃ z, (2 : Int) ^ j = z := ⟨_, rfl⟩
      have hzk : z ∈ kL ∧ z ≤ 32 ∧ 1 ≤ z ∧ (2 : Int) ^ (j + 1) = 2 * z := by
        rw [← hz]
        rcases (show j = 0 ∨ j = 1 ∨ j = 2 ∨ j = 3 ∨ j = 4 ∨ j = 5 by omega) with rfl | rfl | rfl | rfl | rfl | rfl <;> decide
      obtain ⟨hzk, hz32, hz1, hz2⟩ := hzk
      have c1 : ∀ w', Ans Tryd.prog 84 [.int .i64 z] w' fun v _ => v = .string (kstr z) := fun w' => by
        have := className_ans z w'
        rwa [classS_k hzk] at this
      obtain ⟨ix, hix⟩ : ∃ ix, idxOf (hasN (kstr z)) s.Caches = ix := ⟨_, rfl⟩
      have c2 : ∀ w', Ext w w' → Ans Tryd.prog 83 [.agg (encSys r).toArray, .string (kstr z)] w' fun v _ => v = .int .i64 ix := fun w' hx => by
        have := cacheOf_ans r s (kstr z) w' (hr.ext hx) hs
        rwa [hix] at this
      have hiff := named_iff hM (kstr z) hi
      rw [hix] at hiff
      rw [hz]
      by_cases hh : hasN (kstr z) s.Caches[i] = true
      · have hix2 := hiff.2 hh
        have hm : mineB s.Caches[i] = true := List.any_eq_true.2 ⟨z, hzk, hh⟩
        repeat' (first | (show CW _ _ _ _ _ _; first | refine CW.seq ?_ | refine CW.region ?_ | refine CW.block ?_ | refine CW.condd_t rfl (by omega) ?_ | refine CW.skip ?_ | refine CW.ret ?_ | (apply CW.quiet1 mixed; (· kernel_rfl); rotate_left; intro w1 hw1; replace hw := Ext.trans hw hw1; replace hb2 := hb2.ext hw1; clear hw1; rotate_right)) | (show Post _ _ _ _ _; first | refine Post.seq ?_ | refine Post.seq_ret ?_ | refine Post.blk_ret ?_ | refine Post.again_ret ?_) | refine SW.nil ?_ | refine SW.pure rfl rfl ?_ | (show SW _ _ _ _ (⟨_, Op.load _ _, _, _, _, none⟩ :: _) _ _; refine SW.st (st_loads rfl rfl ((fun _ _ => hb2.cell))) rfl ?_) | (show SW _ _ _ _ (⟨_, Op.call ⟨.value (.func _), _, _⟩, _, _, _, none⟩ :: _) _ _; first | refine SW.qcall rfl rfl (fun w1 hw1 => (c1 _)) ?_ | refine SW.qcall rfl rfl (fun w1 hw1 => (c2 _ (Ext.trans hw hw1))) ?_) | exact SW.qnil rfl)
        exact Post.ret1 rfl rfl ⟨_, rfl, hw, _, .yes hu hi hm, rfl⟩
      · have hix2 : ix ≠ (i : Int) := fun h => hh (hiff.1 h)
        repeat' (first | (show CW _ _ _ _ _ _; first | refine CW.seq ?_ | refine CW.region ?_ | refine CW.block ?_ | refine CW.condd_t rfl (by omega) ?_ | refine CW.condd_f rfl (by omega) ?_ | refine CW.skip ?_ | (apply CW.quiet1 mixed; (· kernel_rfl); rotate_left; intro w1 hw1; replace hw := Ext.trans hw hw1; replace hb2 := hb2.ext hw1; clear hw1; rotate_right)) | (show Post _ _ _ _ _; first | refine Post.seq ?_ | refine Post.blk ?_) | refine SW.nil ?_ | refine SW.pure rfl rfl ?_ | (show SW _ _ _ _ (⟨_, Op.binOp _ _ _ _ _, _, _, _, none⟩ :: _) _ _; refine SW.st (st_mul rfl rfl (by omega) (by omega)) rfl ?_) | (show SW _ _ _ _ (⟨_, Op.load _ _, _, _, _, none⟩ :: _) _ _; refine SW.st (st_loads rfl rfl ((fun _ _ => hb2.cell))) rfl ?_) | (show SW _ _ _ _ (⟨_, Op.call ⟨.value (.func _), _, _⟩, _, _, _, none⟩ :: _) _ _; first | refine SW.qcall rfl rfl (fun w1 hw1 => (c1 _)) ?_ | refine SW.qcall rfl rfl (fun w1 hw1 => (c2 _ (Ext.trans hw hw1))) ?_) | exact SW.qnil rfl)
        refine Post.again (j + 1) ⟨rfl, rfl, congrArg (fun z => some (Value.int .i64 z)) hz2.symm, trivial⟩ (by omega) ⟨by omega, hw, hb2, fun m h => ?_⟩
        by_cases e : m = j
        · subst e
          rw [hz]
          simpa using hh
        · exact hI m (by omega)
    · obtain rfl : j = 6 := by omega
      have h64 : (2 : Int) ^ 6 = 64 := by decide
      rw [h64]
      repeat' (first | (show CW _ _ _ _ _ _; first | refine CW.seq ?_ | refine CW.region ?_ | refine CW.condd_f rfl (by omega) ?_ | refine CW.ret ?_ | refine CW.exit ?_) | (show Post _ _ _ _ _; first | refine Post.seq ?_ | refine Post.seq_exit ?_ | refine Post.hit ?_ | refine Post.again_exit ?_) | refine SW.nil ?_ | refine SW.pure rfl rfl ?_)
      refine Post.ret1 rfl rfl ⟨_, rfl, hw, none, .no hu fun i2 hi2 _ e => ?_, rfl⟩
      have e : i = i2 := by simp only at e; omega
      subst e
      cases hm : mineB s.Caches[i]
      · rfl
      · exfalso
        obtain ⟨z, hz, hh⟩ := List.any_eq_true.1 hm
        have : ∃ m : Nat, m < 6 ∧ (2 : Int) ^ m = z := by
          rcases kL_cases hz with rfl | rfl | rfl | rfl | rfl | rfl
          · exact ⟨0, by decide, by decide⟩
          · exact ⟨1, by decide, by decide⟩
          · exact ⟨2, by decide, by decide⟩
          · exact ⟨3, by decide, by decide⟩
          · exact ⟨4, by decide, by decide⟩
          · exact ⟨5, by decide, by decide⟩
        obtain ⟨m, hm6, rfl⟩ := this
        rw [hI m hm6] at hh
        cases hh
  · obtain ⟨i', k, e⟩ := u
    simp only at h0
    simp only [findV]
    obtain rfl : e = 4 := (hu.code hq).resolve_left h0
    repeat' (first | (show CW _ _ _ _ _ _; first | refine CW.seq ?_ | refine CW.region ?_ | refine CW.condd_t rfl (by omega) ?_ | refine CW.ret ?_) | (show Post _ _ _ _ _; first | refine Post.seq ?_ | refine Post.seq_ret ?_) | refine SW.nil ?_ | refine SW.pure rfl rfl ?_)
    exact Post.ret1 rfl rfl ⟨_, rfl, hw, none, .no hu fun i hi h => absurd h h0, rfl⟩

/-- P6.4 -/
inductive KsizeR (s : KSystem) (a : Int) : Int × Int → Prop where
  | bad (h : sysB s = false) : KsizeR s a (0, 8)
  | obj {i : Nat} (h : sysB s = true) (hi : i < s.Caches.length) (ho : OurR s a (some i)) : KsizeR s a (s.Caches[i].Size, 0)
  | whole (h : sysB s = true) (ho : OurR s a none) (hw : wholeP s a = true) : KsizeR s a (16 * pw (wholeO s a), 0)
  | no (h : sysB s = true) (ho : OurR s a none) (hw : wholeP s a = false) : KsizeR s a (0, 4)
theorem KsizeR.det {s : KSystem} {a : Int} {u v : Int × Int} (h : KsizeR s a u) (k : KsizeR s a v) : u = v := by
  cases h with
  | bad h => cases k with
    | bad => rfl
    | obj h' | whole h' | no h' => rw [h] at h'; cases h'
  | obj h hi ho => cases k with
    | bad h' => rw [h] at h'; cases h'
    | obj h' hi' ho' => cases ho.det ho'; rfl
    | whole _ ho' | no _ ho' => cases ho.det ho'
  | whole h ho hw => cases k with
    | bad h' => rw [h] at h'; cases h'
    | obj h' hi' ho' => cases ho.det ho'
    | whole => rfl
    | no _ _ hw' => rw [hw] at hw'; cases hw'
  | no h ho hw => cases k with
    | bad h' => rw [h] at h'; cases h'
    | obj h' hi' ho' => cases ho.det ho'
    | whole _ _ hw' => rw [hw] at hw'; cases hw'
    | no => rfl
theorem wholeO_ok {s : KSystem} (hM : SystemMay s) {a : Int} (h : wholeP s a = true) : ∃ hk : lbOf s.Heap.Live (a / 16) < s.Heap.Live.length, wholeO s a = s.Heap.Live[lbOf s.Heap.Live (a / 16)].Order ∧ 0 ≤ wholeO s a ∧ wholeO s a ≤ 4 := by
  have hf : foundA s.Heap.Live (a / 16) = true := by
    unfold wholeP at h
    simp only [Bool.and_eq_true] at h
    exact h.2.2
  obtain ⟨hk, _⟩ := found_at hf
  have e := ordA_t hf hk
  obtain ⟨l1, l2, l3, l4⟩ := hM.heap.live.each _ hk
  unfold wholeO
  rw [if_pos h, e]
  exact ⟨hk, rfl, by omega, by omega⟩
theorem wholeO_no {s : KSystem} {a : Int} (h : wholeP s a = false) : wholeO s a = -1 := by unfold wholeO; rw [h]; rfl

theorem Size_ans (r : SRow) (s : KSystem) (a : Int) (w : World) (hr : RdS w r s) (hf : s.fine) (ha : -9223372036854775808 ≤ a ∧ a ≤ 9223372036854775807) (hS : SizesW w) :
    Ans Tryd.prog 10 [.agg (encSys r).toArray, .int .i64 a] w fun v _ => ∃ u, KsizeR s a u ∧ v = .tuple #[.int .i64 u.1, .int .i64 u.2] := by
  refine ans_of Tryd.func10 rfl Tryd.ntmps10 rfl ?_
  refine CW.seq (CW.region (SW.box rfl rfl fun b2 w1 hw hb2b hb2 => ?_))
  have hs := hf.small
  obtain ⟨q, hq⟩ : ∃ q, sysB s = q := ⟨_, rfl⟩
  have c1 : ∀ w', Ext w w' → Ans Tryd.prog 35 [.agg (encSys r).toArray] w' fun v _ => v = .int .i64 (if q then 0 else 8) := fun w' hx => by
    have := Scheck_ans r s w' (hr.ext hx) hf
    rwa [hq] at this
  cases q
  · simp only [Bool.false_eq_true, if_false] at c1
    repeat' (first | (show CW _ _ _ _ _ _; first | refine CW.seq ?_ | refine CW.region ?_ | refine CW.condn_t rfl (by omega) ?_ | refine CW.ret ?_) | (show Post _ _ _ _ _; first | refine Post.seq ?_ | refine Post.seq_ret ?_) | refine SW.nil ?_ | refine SW.pure rfl rfl ?_ | (show SW _ _ _ _ (⟨_, Op.load _ _, _, _, _, none⟩ :: _) _ _; refine SW.st (st_loads rfl rfl ((fun _ _ => hb2.cell))) rfl ?_) | (show SW _ _ _ _ (⟨_, Op.call ⟨.value (.func _), _, _⟩, _, _, _, none⟩ :: _) _ _; (refine SW.call rfl rfl (c1 _ hw) ?_; intro v w1 hw1 hv; subst hv; replace hw := Ext.trans hw hw1; replace hb2 := hb2.ext hw1; clear hw1)))
    exact Post.ret2 rfl rfl rfl ⟨_, rfl, hw, _, .bad hq, rfl⟩
  · simp only [if_true] at c1
    have hM := sysB_iff.1 hq
    obtain ⟨cs, hc⟩ := hr.caches
    obtain ⟨z1, z2⟩ := hc.len
    have hA := hc.row.base
    repeat' (first | (show CW _ _ _ _ _ _; first | refine CW.seq ?_ | refine CW.region ?_ | refine CW.condn_f rfl (by omega) ?_ | refine CW.skip ?_) | (show Post _ _ _ _ _; refine Post.seq ?_) | refine SW.nil ?_ | refine SW.pure rfl rfl ?_ | (show SW _ _ _ _ (⟨_, Op.load _ _, _, _, _, none⟩ :: _) _ _; refine SW.st (st_loads rfl rfl ((fun _ _ => hb2.cell))) rfl ?_) | (show SW _ _ _ _ (⟨_, Op.call ⟨.value (.func _), _, _⟩, _, _, _, none⟩ :: _) _ _; (refine SW.call rfl rfl (c1 _ hw) ?_; intro v w1 hw1 hv; subst hv; replace hw := Ext.trans hw hw1; replace hb2 := hb2.ext hw1; clear hw1)))
    refine SW.call rfl rfl (Find_ans r s a _ (hr.ext hw) hf ha) fun v w5 hw5 hv => ?_
    obtain ⟨u, hu, rfl⟩ := hv
    (replace hw := Ext.trans hw hw5; replace hb2 := hb2.ext hw5)
    clear c1
    by_cases h0 : u.2.2 = 0
    · obtain ⟨i, hi, hui⟩ := hu.hit_lt h0
      obtain ⟨i', k, e⟩ := u
      simp only at h0 hui
      subst h0 hui
      simp only [findV]
      have hin : i < r.Caches.n := by omega
      have hir : i < cs.length := by omega
      have hck := hc.each.get i hir hi
      have q1 := hck.names.len
      have q2 := (hs.each _ (List.getElem_mem hi)).names
      have eS := hck.size
      obtain ⟨bm, hbm⟩ : ∃ bm, mineB s.Caches[i] = bm := ⟨_, rfl⟩
      have c2 : ∀ w', Ext w w' → Ans Tryd.prog 37 [.agg (encC cs[i]).toArray] w' fun v _ => v = .bool bm := fun w' hx => by
        have := mine_ans cs[i] _ w' (hck.ext hx) (by omega) (hS.ext hx)
        rwa [hbm] at this
      cases bm
      · have hO : OurR s a none := .no hu fun i2 hi2 _ e => by
          have e : i = i2 := by simp only at e; omega
          subst e
          exact hbm
        repeat' (first | (show CW _ _ _ _ _ _; first | refine CW.seq ?_ | refine CW.region ?_ | refine CW.condfr rfl (by with_reducible rfl) ?_ | refine CW.skip ?_) | (show Post _ _ _ _ _; refine Post.seq ?_) | refine SW.nil ?_ | (show SW _ _ _ _ (⟨_, _, _, _, _, some _⟩ :: _) _ _; first | refine SW.want_t rfl rfl (by with_reducible rfl) ?_ | refine SW.splitd_t rfl rfl rfl (by omega) ?_) | refine SW.pure rfl rfl ?_ | (show SW _ _ _ _ (⟨_, Op.fieldAddr _ _ _, _, _, _, none⟩ :: _) _ _; refine SW.st (st_field rfl) rfl ?_) | (show SW _ _ _ _ (⟨_, Op.indexAddr _ _ _, _, _, _, none⟩ :: _) _ _; refine SW.st (st_indexN rfl rfl (by assumption) (by omega)) rfl ?_) | (show SW _ _ _ _ (⟨_, Op.load _ _, _, _, _, none⟩ :: _) _ _; first | refine SW.st (st_loads rfl rfl ((fun _ _ => hb2.cell))) rfl ?_ | refine SW.st (st_load rfl (hb2.cell (i := 6) (v := .slice r.Caches.A r.Caches.n r.Caches.c) rfl)) rfl ?_ | refine SW.st (st_loadsx hw rfl rfl ((hc.row.all hin))) rfl ?_) | (show SW _ _ _ _ (⟨_, Op.call ⟨.value (.func _), _, _⟩, _, _, _, none⟩ :: _) _ _; (refine SW.call rfl rfl (c2 _ hw) ?_; intro v w1 hw1 hv; subst hv; replace hw := Ext.trans hw hw1; replace hb2 := hb2.ext hw1; clear hw1)))
        refine SW.call rfl rfl (whole_ans r s a _ (hr.ext hw) hs hM ha) fun v w6 hw6 hv => ?_
        obtain ⟨ix, rfl, hix⟩ := hv
        (replace hw := Ext.trans hw hw6; replace hb2 := hb2.ext hw6)
        cases hW : wholeP s a
        · repeat' (first | (show CW _ _ _ _ _ _; first | refine CW.seq ?_ | refine CW.region ?_ | refine CW.condf rfl ?_ | refine CW.skip ?_ | refine CW.ret ?_) | (show Post _ _ _ _ _; refine Post.seq ?_) | refine SW.nil ?_ | refine SW.pure rfl rfl ?_)
          exact Post.ret2 rfl rfl rfl ⟨_, rfl, hw, _, .no hq hO hW, rfl⟩
        · obtain ⟨hk, e1, e2, e3⟩ := wholeO_ok hM hW
          obtain rfl := hix hW
          have hlk := hr.heap.live.len
          have hAL := hr.heap.live.base
          have hkn : lbOf s.Heap.Live (a / 16) < r.Heap.Live.n := by omega
          have g1 := hr.heap.live.fld hkn (j := 1) (u := .int .i64 (wholeO s a)) (by rw [e1]; rfl)
          have hp := pw_le e2 e3
          repeat' (first | (show CW _ _ _ _ _ _; first | refine CW.seq ?_ | refine CW.region ?_ | refine CW.condt rfl ?_ | refine CW.ret ?_) | (show Post _ _ _ _ _; first | refine Post.seq ?_ | refine Post.seq_ret ?_) | refine SW.nil ?_ | refine SW.pure rfl rfl ?_ | (show SW _ _ _ _ (⟨_, Op.fieldAddr _ _ _, _, _, _, none⟩ :: _) _ _; refine SW.st (st_field rfl) rfl ?_) | (show SW _ _ _ _ (⟨_, Op.indexAddr _ _ _, _, _, _, none⟩ :: _) _ _; refine SW.st (st_indexN rfl rfl (by assumption) (by omega)) rfl ?_) | (show SW _ _ _ _ (⟨_, Op.load _ _, _, _, _, none⟩ :: _) _ _; first | refine SW.st (st_load rfl (hb2.cell (i := 5) (v := .slice r.Heap.Live.A r.Heap.Live.n r.Heap.Live.c) rfl)) rfl ?_ | refine SW.st (st_loadx hw rfl g1) rfl ?_) | (refine SW.st (st_shl (r := 16 * pw (wholeO s a)) rfl rfl (by omega) (by omega) (by simp [pw]) (by omega) (by omega)) rfl ?_))
          exact Post.ret2 rfl rfl rfl ⟨_, rfl, hw, _, .whole hq hO hW, rfl⟩
      · have hO : OurR s a (some i) := .yes hu hi hbm
        repeat' (first | (show CW _ _ _ _ _ _; first | refine CW.seq ?_ | refine CW.region ?_ | refine CW.condtr rfl (by with_reducible rfl) ?_ | refine CW.ret ?_) | (show Post _ _ _ _ _; first | refine Post.seq ?_ | refine Post.seq_ret ?_) | refine SW.nil ?_ | (show SW _ _ _ _ (⟨_, _, _, _, _, some _⟩ :: _) _ _; first | refine SW.want_t rfl rfl (by with_reducible rfl) ?_ | refine SW.splitd_t rfl rfl rfl (by omega) ?_) | refine SW.pure rfl rfl ?_ | (show SW _ _ _ _ (⟨_, Op.fieldAddr _ _ _, _, _, _, none⟩ :: _) _ _; refine SW.st (st_field rfl) rfl ?_) | (show SW _ _ _ _ (⟨_, Op.indexAddr _ _ _, _, _, _, none⟩ :: _) _ _; refine SW.st (st_indexN rfl rfl (by assumption) (by omega)) rfl ?_) | (show SW _ _ _ _ (⟨_, Op.load _ _, _, _, _, none⟩ :: _) _ _; first | refine SW.st (st_load rfl (hb2.cell (i := 6) (v := .slice r.Caches.A r.Caches.n r.Caches.c) rfl)) rfl ?_ | refine SW.st (st_loadsx hw rfl rfl ((hc.row.all hin))) rfl ?_ | refine SW.st (st_loadx hw rfl (hc.row.fld hin (j := 1) (u := .int .i64 cs[i].Size) rfl)) rfl ?_) | (show SW _ _ _ _ (⟨_, Op.call ⟨.value (.func _), _, _⟩, _, _, _, none⟩ :: _) _ _; (refine SW.call rfl rfl (c2 _ hw) ?_; intro v w1 hw1 hv; subst hv; replace hw := Ext.trans hw hw1; replace hb2 := hb2.ext hw1; clear hw1)))
        exact Post.ret2 rfl rfl rfl ⟨_, rfl, hw, _, .obj hq hi hO, by rw [eS]⟩
    · obtain ⟨i', k, e⟩ := u
      simp only at h0
      simp only [findV]
      have hO : OurR s a none := .no hu fun i hi h => absurd h h0
      obtain rfl : e = 4 := (hu.code hq).resolve_left h0
      repeat' (first | (show CW _ _ _ _ _ _; first | refine CW.seq ?_ | refine CW.region ?_ | refine CW.condfr rfl (by with_reducible rfl) ?_ | refine CW.skip ?_) | (show Post _ _ _ _ _; refine Post.seq ?_) | refine SW.nil ?_ | (show SW _ _ _ _ (⟨_, _, _, _, _, some _⟩ :: _) _ _; first | refine SW.skip_t rfl rfl (by with_reducible rfl) rfl ?_ | refine SW.splitd_f rfl rfl rfl (by omega) ?_) | refine SW.pure rfl rfl ?_ | (show SW _ _ _ _ (⟨_, Op.load _ _, _, _, _, none⟩ :: _) _ _; refine SW.st (st_loads rfl rfl ((fun _ _ => hb2.cell))) rfl ?_))
      refine SW.call rfl rfl (whole_ans r s a _ (hr.ext hw) hs hM ha) fun v w6 hw6 hv => ?_
      obtain ⟨ix, rfl, hix⟩ := hv
      (replace hw := Ext.trans hw hw6; replace hb2 := hb2.ext hw6)
      cases hW : wholeP s a
      · repeat' (first | (show CW _ _ _ _ _ _; first | refine CW.seq ?_ | refine CW.region ?_ | refine CW.condd_f rfl (by omega) ?_ | refine CW.skip ?_ | refine CW.ret ?_) | (show Post _ _ _ _ _; refine Post.seq ?_) | refine SW.nil ?_ | refine SW.pure rfl rfl ?_)
        exact Post.ret2 rfl rfl rfl ⟨_, rfl, hw, _, .no hq hO hW, rfl⟩
      · obtain ⟨hk, e1, e2, e3⟩ := wholeO_ok hM hW
        obtain rfl := hix hW
        have hlk := hr.heap.live.len
        have hAL := hr.heap.live.base
        have hkn : lbOf s.Heap.Live (a / 16) < r.Heap.Live.n := by omega
        have g1 := hr.heap.live.fld hkn (j := 1) (u := .int .i64 (wholeO s a)) (by rw [e1]; rfl)
        have hp := pw_le e2 e3
        repeat' (first | (show CW _ _ _ _ _ _; first | refine CW.seq ?_ | refine CW.region ?_ | refine CW.condn_t rfl (by omega) ?_ | refine CW.ret ?_) | (show Post _ _ _ _ _; first | refine Post.seq ?_ | refine Post.seq_ret ?_) | refine SW.nil ?_ | refine SW.pure rfl rfl ?_ | (show SW _ _ _ _ (⟨_, Op.fieldAddr _ _ _, _, _, _, none⟩ :: _) _ _; refine SW.st (st_field rfl) rfl ?_) | (show SW _ _ _ _ (⟨_, Op.indexAddr _ _ _, _, _, _, none⟩ :: _) _ _; refine SW.st (st_indexN rfl rfl (by assumption) (by omega)) rfl ?_) | (show SW _ _ _ _ (⟨_, Op.load _ _, _, _, _, none⟩ :: _) _ _; first | refine SW.st (st_load rfl (hb2.cell (i := 5) (v := .slice r.Heap.Live.A r.Heap.Live.n r.Heap.Live.c) rfl)) rfl ?_ | refine SW.st (st_loadx hw rfl g1) rfl ?_) | (refine SW.st (st_shl (r := 16 * pw (wholeO s a)) rfl rfl (by omega) (by omega) (by simp [pw]) (by omega) (by omega)) rfl ?_))
        exact Post.ret2 rfl rfl rfl ⟨_, rfl, hw, _, .whole hq hO hW, rfl⟩

theorem KsizeOf_ans (r : SRow) (s : KSystem) (a : Int) (w : World) (hr : RdS w r s) (hf : s.fine) (ha : -9223372036854775808 ≤ a ∧ a ≤ 9223372036854775807) :
    Ans Tryd.prog 11 [.agg (encSys r).toArray, .int .i64 a] w fun v _ => ∃ u, KsizeR s a u ∧ v = .tuple #[.int .i64 u.1, .int .i64 u.2] := by
  refine ans_of Tryd.func11 rfl Tryd.ntmps11 rfl ?_
  refine CW.seq (CW.region (SW.box rfl rfl fun b2 w1 hw hb2b hb2 => ?_))
  have hs := hf.small
  obtain ⟨q, hq⟩ : ∃ q, sysB s = q := ⟨_, rfl⟩
  have c1 : ∀ w', Ext w w' → Ans Tryd.prog 39 [.agg (encSys r).toArray] w' fun v _ => v = .bool q := fun w' hx => by
    have := SMay_ans r s w' (hr.ext hx) hf
    rwa [hq] at this
  cases q
  · repeat' (first | (show CW _ _ _ _ _ _; first | refine CW.seq ?_ | refine CW.region ?_ | refine CW.condt rfl ?_ | refine CW.ret ?_) | (show Post _ _ _ _ _; first | refine Post.seq ?_ | refine Post.seq_ret ?_) | refine SW.nil ?_ | refine SW.pure rfl rfl ?_ | (show SW _ _ _ _ (⟨_, Op.load _ _, _, _, _, none⟩ :: _) _ _; refine SW.st (st_loads rfl rfl ((fun _ _ => hb2.cell))) rfl ?_) | (show SW _ _ _ _ (⟨_, Op.call ⟨.value (.func _), _, _⟩, _, _, _, none⟩ :: _) _ _; (refine SW.call rfl rfl (c1 _ hw) ?_; intro v w1 hw1 hv; subst hv; replace hw := Ext.trans hw hw1; replace hb2 := hb2.ext hw1; clear hw1)))
    exact Post.ret2 rfl rfl rfl ⟨_, rfl, hw, _, .bad hq, rfl⟩
  · have hM := sysB_iff.1 hq
    obtain ⟨cs, hc⟩ := hr.caches
    obtain ⟨z1, z2⟩ := hc.len
    have hA := hc.row.base
    repeat' (first | (show CW _ _ _ _ _ _; first | refine CW.seq ?_ | refine CW.region ?_ | refine CW.condf rfl ?_ | refine CW.skip ?_) | (show Post _ _ _ _ _; refine Post.seq ?_) | refine SW.nil ?_ | refine SW.pure rfl rfl ?_ | (show SW _ _ _ _ (⟨_, Op.load _ _, _, _, _, none⟩ :: _) _ _; refine SW.st (st_loads rfl rfl ((fun _ _ => hb2.cell))) rfl ?_) | (show SW _ _ _ _ (⟨_, Op.call ⟨.value (.func _), _, _⟩, _, _, _, none⟩ :: _) _ _; (refine SW.call rfl rfl (c1 _ hw) ?_; intro v w1 hw1 hv; subst hv; replace hw := Ext.trans hw hw1; replace hb2 := hb2.ext hw1; clear hw1)))
    refine SW.call rfl rfl (ours_ans r s a _ (hr.ext hw) hf hM ha) fun v w5 hw5 hv => ?_
    obtain ⟨u, hu, rfl⟩ := hv
    (replace hw := Ext.trans hw hw5; replace hb2 := hb2.ext hw5)
    clear c1
    cases u with
    | some i =>
      have hi : i < s.Caches.length := by cases hu; assumption
      have hin : i < r.Caches.n := by omega
      have hir : i < cs.length := by omega
      have eS := (hc.each.get i hir hi).size
      simp only
      repeat' (first | (show CW _ _ _ _ _ _; first | refine CW.seq ?_ | refine CW.region ?_ | refine CW.condd_t rfl (by omega) ?_ | refine CW.ret ?_) | (show Post _ _ _ _ _; first | refine Post.seq ?_ | refine Post.seq_ret ?_) | refine SW.nil ?_ | refine SW.pure rfl rfl ?_ | (show SW _ _ _ _ (⟨_, Op.fieldAddr _ _ _, _, _, _, none⟩ :: _) _ _; refine SW.st (st_field rfl) rfl ?_) | (show SW _ _ _ _ (⟨_, Op.indexAddr _ _ _, _, _, _, none⟩ :: _) _ _; refine SW.st (st_indexN rfl rfl (by assumption) (by omega)) rfl ?_) | (show SW _ _ _ _ (⟨_, Op.load _ _, _, _, _, none⟩ :: _) _ _; first | refine SW.st (st_load rfl (hb2.cell (i := 6) (v := .slice r.Caches.A r.Caches.n r.Caches.c) rfl)) rfl ?_ | refine SW.st (st_loadx hw rfl (hc.row.fld hin (j := 1) (u := .int .i64 cs[i].Size) rfl)) rfl ?_))
      exact Post.ret2 rfl rfl rfl ⟨_, rfl, hw, _, .obj hq hi hu, by rw [eS]⟩
    | none =>
      simp only
      obtain ⟨o, ho⟩ : ∃ o, wholeO s a = o := ⟨_, rfl⟩
      have c2 : ∀ w', Ext w w' → Ans Tryd.prog 41 [.agg (encSys r).toArray, .int .i64 a] w' fun v _ => v = .int .i64 o := fun w' hx => by
        have := wholeAt_ans r s a w' (hr.ext hx) hs hM ha
        rwa [ho] at this
      cases hW : wholeP s a
      · have e := wholeO_no hW
        rw [ho] at e
        repeat' (first | (show CW _ _ _ _ _ _; first | refine CW.seq ?_ | refine CW.region ?_ | refine CW.condd_f rfl (by omega) ?_ | refine CW.skip ?_ | refine CW.ret ?_) | (show Post _ _ _ _ _; refine Post.seq ?_) | refine SW.nil ?_ | refine SW.pure rfl rfl ?_ | (show SW _ _ _ _ (⟨_, Op.load _ _, _, _, _, none⟩ :: _) _ _; refine SW.st (st_loads rfl rfl ((fun _ _ => hb2.cell))) rfl ?_) | (show SW _ _ _ _ (⟨_, Op.call ⟨.value (.func _), _, _⟩, _, _, _, none⟩ :: _) _ _; (refine SW.call rfl rfl (c2 _ hw) ?_; intro v w1 hw1 hv; subst hv; replace hw := Ext.trans hw hw1; replace hb2 := hb2.ext hw1; clear hw1)))
        exact Post.ret2 rfl rfl rfl ⟨_, rfl, hw, _, .no hq hu hW, rfl⟩
      · obtain ⟨hk, e1, e2, e3⟩ := wholeO_ok hM hW
        rw [ho] at e2 e3
        have hp := pw_le e2 e3
        have c3 : ∀ w', Ans Tryd.prog 30 [.int .i64 o] w' fun v _ => v = .int .i64 (pw o) := fun w' => power_ans _ (by omega) w'
        repeat' (first | (show CW _ _ _ _ _ _; first | refine CW.seq ?_ | refine CW.region ?_ | refine CW.condd_t rfl (by omega) ?_ | refine CW.condd_f rfl (by omega) ?_ | refine CW.skip ?_ | refine CW.ret ?_) | (show Post _ _ _ _ _; first | refine Post.seq ?_ | refine Post.seq_ret ?_) | refine SW.nil ?_ | refine SW.pure rfl rfl ?_ | (show SW _ _ _ _ (⟨_, Op.binOp _ _ _ _ _, _, _, _, none⟩ :: _) _ _; refine SW.st (st_mul rfl rfl (by omega) (by omega)) rfl ?_) | (show SW _ _ _ _ (⟨_, Op.load _ _, _, _, _, none⟩ :: _) _ _; refine SW.st (st_loads rfl rfl ((fun _ _ => hb2.cell))) rfl ?_) | (show SW _ _ _ _ (⟨_, Op.call ⟨.value (.func _), _, _⟩, _, _, _, none⟩ :: _) _ _; first | (refine SW.call rfl rfl (c2 _ hw) ?_; intro v w1 hw1 hv; subst hv; replace hw := Ext.trans hw hw1; replace hb2 := hb2.ext hw1; clear hw1) | (refine SW.call rfl rfl (c3 _) ?_; intro v w1 hw1 hv; subst hv; replace hw := Ext.trans hw hw1; replace hb2 := hb2.ext hw1; clear hw1)))
        exact Post.ret2 rfl rfl rfl ⟨_, rfl, hw, _, .whole hq hu hW, by rw [ho]⟩

theorem kmemSizes_ans (r : SRow) (s : KSystem) (a : Int) (w : World) (hr : RdS w r s) (hf : s.fine) (ha : -9223372036854775808 ≤ a ∧ a ≤ 9223372036854775807) (hS : SizesW w) :
    Ans Tryd.prog 4 [.agg (encSys r).toArray, .int .i64 a] w fun v _ => v = .bool true := by
  refine ans_of Tryd.func4 rfl Tryd.ntmps4 rfl ?_
  refine CW.seq (CW.region (SW.box rfl rfl fun b2 w1 hw hb2b hb2 => ?_))
  repeat' (first | (show CW _ _ _ _ _ _; first | refine CW.seq ?_ | refine CW.region ?_) | (show Post _ _ _ _ _; refine Post.seq ?_) | refine SW.nil ?_ | refine SW.pure rfl rfl ?_ | (show SW _ _ _ _ (⟨_, Op.load _ _, _, _, _, none⟩ :: _) _ _; refine SW.st (st_loads rfl rfl ((fun _ _ => hb2.cell))) rfl ?_))
  refine SW.call rfl rfl (Size_ans r s a _ (hr.ext hw) hf ha (hS.ext hw)) fun v w5 hw5 hv => ?_
  obtain ⟨u, hu, rfl⟩ := hv
  (replace hw := Ext.trans hw hw5; replace hb2 := hb2.ext hw5)
  obtain ⟨x, e⟩ := u
  have c2 : ∀ w', Ext w w' → Ans Tryd.prog 11 [.agg (encSys r).toArray, .int .i64 a] w' fun v _ => v = .tuple #[.int .i64 x, .int .i64 e] := fun w' hx => by
    refine (KsizeOf_ans r s a w' (hr.ext hx) hf ha).mono fun v w2 _ hv => ?_
    obtain ⟨u', hu', rfl⟩ := hv
    rw [← hu.det hu']
  repeat' (first | (show CW _ _ _ _ _ _; first | refine CW.seq ?_ | refine CW.region ?_ | refine CW.ret ?_) | (show Post _ _ _ _ _; refine Post.seq ?_) | refine SW.nil ?_ | (show SW _ _ _ _ (⟨_, _, _, _, _, some _⟩ :: _) _ _; first | refine SW.want_t rfl rfl (by with_reducible rfl) ?_ | refine SW.splitd_t rfl rfl rfl (by omega) ?_) | refine SW.pure rfl rfl ?_ | (show SW _ _ _ _ (⟨_, Op.load _ _, _, _, _, none⟩ :: _) _ _; refine SW.st (st_loads rfl rfl ((fun _ _ => hb2.cell))) rfl ?_) | (show SW _ _ _ _ (⟨_, Op.call ⟨.value (.func _), _, _⟩, _, _, _, none⟩ :: _) _ _; (refine SW.call rfl rfl (c2 _ hw) ?_; intro v w1 hw1 hv; subst hv; replace hw := Ext.trans hw hw1; replace hb2 := hb2.ext hw1; clear hw1)))
  all_goals first | (exfalso; omega) | skip
  all_goals exact Post.ret1 rfl rfl ⟨_, rfl, hw, by simp⟩
end Go.Proofs.YtfommgdbahemfaaDoor
